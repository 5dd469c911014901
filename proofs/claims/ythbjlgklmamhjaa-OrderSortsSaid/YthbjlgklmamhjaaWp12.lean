/-
  Chapter 04. The walks.
-/
import Derived.Test.YthbjlgklmamhjaaWp11
import Derived.Test.YthbjlgklmamhjaaSp12
namespace Go.Proofs.Ythbjlgklmamhjaa
open Go.RowKit
set_option linter.unusedVariables false
set_option maxHeartbeats 2000000 in
theorem law04_OrderSorts_w (w : World) (l1 : List (Int × Int)) (Al1 : Option Addr) (cl1 : Nat) (rows2 : List (List Int)) (Arows2 : Option Addr) (crows2 : Nat) (n3 : List Int) (An3 : Option Addr) (cn3 : Nat) (hl1 : RdO (fun _ => 0) [0] w R48 Al1 cl1 l1) (hrows2 : RdO (fun _ => 0) [0] w R22 Arows2 crows2 rows2) (hn3 : RdO (fun _ => 0) [0] w R3 An3 cn3 n3) (r : Bool) (hs : law04_OrderSorts l1 rows2 n3 = some r) :
    Calls Try.prog 5 #[.slice Al1 l1.length cl1, .slice Arows2 rows2.length crows2, .slice An3 n3.length cn3] w fun e w' => ∃ own' : Own, e = .returned (.bool r) ∧ Evo [] (fun _ => 0) own' w w' := by
  refine fl_enter (n := 95) rfl rfl rfl (Nat.le_of_ble_eq_true rfl) ?_
  intro a0 Q hd0 hz0 harg hret
  have ha0 := harg 0 _ rfl
  have ha1 := harg 1 _ rfl
  have ha2 := harg 2 _ rfl
  clear harg
  have hE0 : Evo [] (fun _ => 0) (fun _ => 0) w w := Evo.refl _ _ _
  refine rg_plain_seq (n := 95) (rs := []) (own0 := (fun _ => 0)) (K := [])
      (bs := [0])
      (ds := [⟨[], [], [], Fct.val 6 (.bool false)⟩]) (by kernel_rfl) hz0 hd0 (fun _ h => nomatch h) ?_ ?_
  · refine steps_cons (fun own a wx hf hsl hE => ?_) ?_
    · exact sg_plain rfl rfl (or_assign rfl)
    exact steps_nil
  intro own197 a197 w197 hd197 hz197 hk197 hf197 hE197
  have e197_0 : a197.eval (.tmp 0) = .slice Al1 l1.length cl1 := (hk197 0 rfl).trans ha0
  have e197_1 : a197.eval (.tmp 1) = .slice Arows2 rows2.length crows2 := (hk197 1 rfl).trans ha1
  have e197_2 : a197.eval (.tmp 2) = .slice An3 n3.length cn3 := (hk197 2 rfl).trans ha2
  have hX197 := Evo.step hE0 (fun _ => Nat.le_refl 0) hE197 rfl
  have b197_Al1 := RdO.evo rfl hE197 hl1
  have b197_Arows2 := RdO.evo rfl hE197 hrows2
  have b197_An3 := RdO.evo rfl hE197 hn3
  obtain ⟨x198, hx198, hs⟩ := obind hs
  obtain ⟨x200, hx200, hs⟩ := obind hs
  obtain ⟨x202, hx202, hs⟩ := obind hs
  refine rg_draw_seq g_mixed (n := 95) (rs := []) (own0 := own197) (K := [])
      (bs := [0, 0, 2, 6, 15, 0, 0, 64, 192, 480, 0, 0, 2048, 6144, 15360, 31, 33791, 131071])
      (ds := [⟨[], [0], [], Fct.val 10 (.slice Al1 l1.length cl1)⟩,
      ⟨[], [0], [], Fct.val 11 (.slice Al1 l1.length cl1)⟩,
      ⟨[1], [], [], Fct.val 12 (.int .i64 (l1.length : Int))⟩,
      ⟨[2], [], [], Fct.val 13 (.int .i64 (mn (l1.length : Int) 60))⟩,
      ⟨[0, 3], [], [], Fct.view [0] 14 R48 x198⟩,
      ⟨[], [1], [], Fct.val 15 (.slice Arows2 rows2.length crows2)⟩,
      ⟨[], [1], [], Fct.val 16 (.slice Arows2 rows2.length crows2)⟩,
      ⟨[6], [], [], Fct.val 17 (.int .i64 (rows2.length : Int))⟩,
      ⟨[7], [], [], Fct.val 18 (.int .i64 (mn (rows2.length : Int) 60))⟩,
      ⟨[5, 8], [], [], Fct.view [0] 19 R22 x200⟩,
      ⟨[], [2], [], Fct.val 20 (.slice An3 n3.length cn3)⟩,
      ⟨[], [2], [], Fct.val 21 (.slice An3 n3.length cn3)⟩,
      ⟨[11], [], [], Fct.val 22 (.int .i64 (n3.length : Int))⟩,
      ⟨[12], [], [], Fct.val 23 (.int .i64 (mn (n3.length : Int) 60))⟩,
      ⟨[10, 13], [], [], Fct.view [0] 24 R3 x202⟩,
      ⟨[4], [], [], Fct.rel [0, 14] (fun l => ∀ (A199 : Option Addr) (cA199 : Nat), l.getD 1 undef = .slice A199 x198.length cA199 → l.getD 0 undef = .slice A199 x198.length cA199)⟩,
      ⟨[9], [], [], Fct.rel [1, 19] (fun l => ∀ (A201 : Option Addr) (cA201 : Nat), l.getD 1 undef = .slice A201 x200.length cA201 → l.getD 0 undef = .slice A201 x200.length cA201)⟩,
      ⟨[14], [], [], Fct.rel [2, 24] (fun l => ∀ (A203 : Option Addr) (cA203 : Nat), l.getD 1 undef = .slice A203 x202.length cA203 → l.getD 0 undef = .slice A203 x202.length cA203)⟩]) (by kernel_rfl) hz197 hd197 (fun _ h => nomatch h) ?_ ?_
  · refine steps_cons (fun own a wx hf hsl hE => ?_) ?_
    · obtain ⟨s_0, -⟩ := hsl
      exact sg_plain rfl rfl (or_move (s_0.trans e197_0))
    refine steps_cons (fun own a wx hf hsl hE => ?_) ?_
    · obtain ⟨s_0, -⟩ := hsl
      exact sg_plain rfl rfl (or_move (s_0.trans e197_0))
    refine steps_cons (fun own a wx hf hsl hE => ?_) ?_
    · obtain ⟨(f_11 : a.eval (.tmp 11) = .slice Al1 l1.length cl1), -⟩ := hf
      exact sg_plain rfl rfl (or_len tu34 f_11 rfl)
    refine steps_cons (fun own a wx hf hsl hE => ?_) ?_
    · obtain ⟨(f_12 : a.eval (.tmp 12) = .int .i64 (l1.length : Int)), -⟩ := hf
      exact sg_plain rfl rfl (or_min f_12 rfl)
    refine steps_cons (fun own a wx hf hsl hE => ?_) ?_
    · obtain ⟨(f_10 : a.eval (.tmp 10) = .slice Al1 l1.length cl1), (f_13 : a.eval (.tmp 13) = .int .i64 (mn (l1.length : Int) 60)), -⟩ := hf
      exact sg_plain rfl rfl (or_view (R := R48) (l := l1) (L := [0]) tu34 ts48 f_10 Bnd.none_ (Bnd.some_ f_13) Bnd.none_ (RdO.evo rfl hE b197_Al1) hx198 (.inl rfl) (by simp))
    refine steps_cons (fun own a wx hf hsl hE => ?_) ?_
    · obtain ⟨s_1, -⟩ := hsl
      exact sg_plain rfl rfl (or_move (s_1.trans e197_1))
    refine steps_cons (fun own a wx hf hsl hE => ?_) ?_
    · obtain ⟨s_1, -⟩ := hsl
      exact sg_plain rfl rfl (or_move (s_1.trans e197_1))
    refine steps_cons (fun own a wx hf hsl hE => ?_) ?_
    · obtain ⟨(f_16 : a.eval (.tmp 16) = .slice Arows2 rows2.length crows2), -⟩ := hf
      exact sg_plain rfl rfl (or_len tu35 f_16 rfl)
    refine steps_cons (fun own a wx hf hsl hE => ?_) ?_
    · obtain ⟨(f_17 : a.eval (.tmp 17) = .int .i64 (rows2.length : Int)), -⟩ := hf
      exact sg_plain rfl rfl (or_min f_17 rfl)
    refine steps_cons (fun own a wx hf hsl hE => ?_) ?_
    · obtain ⟨(f_15 : a.eval (.tmp 15) = .slice Arows2 rows2.length crows2), (f_18 : a.eval (.tmp 18) = .int .i64 (mn (rows2.length : Int) 60)), -⟩ := hf
      exact sg_plain rfl rfl (or_view (R := R22) (l := rows2) (L := [0]) tu35 ts22 f_15 Bnd.none_ (Bnd.some_ f_18) Bnd.none_ (RdO.evo rfl hE b197_Arows2) hx200 (.inl rfl) (by simp))
    refine steps_cons (fun own a wx hf hsl hE => ?_) ?_
    · obtain ⟨s_2, -⟩ := hsl
      exact sg_plain rfl rfl (or_move (s_2.trans e197_2))
    refine steps_cons (fun own a wx hf hsl hE => ?_) ?_
    · obtain ⟨s_2, -⟩ := hsl
      exact sg_plain rfl rfl (or_move (s_2.trans e197_2))
    refine steps_cons (fun own a wx hf hsl hE => ?_) ?_
    · obtain ⟨(f_21 : a.eval (.tmp 21) = .slice An3 n3.length cn3), -⟩ := hf
      exact sg_plain rfl rfl (or_len tu22 f_21 rfl)
    refine steps_cons (fun own a wx hf hsl hE => ?_) ?_
    · obtain ⟨(f_22 : a.eval (.tmp 22) = .int .i64 (n3.length : Int)), -⟩ := hf
      exact sg_plain rfl rfl (or_min f_22 rfl)
    refine steps_cons (fun own a wx hf hsl hE => ?_) ?_
    · obtain ⟨(f_20 : a.eval (.tmp 20) = .slice An3 n3.length cn3), (f_23 : a.eval (.tmp 23) = .int .i64 (mn (n3.length : Int) 60)), -⟩ := hf
      exact sg_plain rfl rfl (or_view (R := R3) (l := n3) (L := [0]) tu22 ts3 f_20 Bnd.none_ (Bnd.some_ f_23) Bnd.none_ (RdO.evo rfl hE b197_An3) hx202 (.inl rfl) (by simp))
    refine steps_cons (fun own a wx hf hsl hE => ?_) ?_
    · obtain ⟨⟨⟨A199, cA199⟩, (f_14 : a.eval (.tmp 14) = .slice A199 x198.length cA199), (b_A199 : RdO own [0] wx R48 A199 cA199 x198)⟩, -⟩ := hf
      exact sg_plain rfl rfl (or_mono (f := Fct.val 0 (.slice A199 x198.length cA199)) (or_assign f_14) (fun own' a' w' v' hp h => fun _ _ h0' => by cases (f_14.symm.trans ((hp.2 14 (by decide)).symm.trans h0')); exact h))
    refine steps_cons (fun own a wx hf hsl hE => ?_) ?_
    · obtain ⟨⟨⟨A201, cA201⟩, (f_19 : a.eval (.tmp 19) = .slice A201 x200.length cA201), (b_A201 : RdO own [0] wx R22 A201 cA201 x200)⟩, -⟩ := hf
      exact sg_plain rfl rfl (or_mono (f := Fct.val 1 (.slice A201 x200.length cA201)) (or_assign f_19) (fun own' a' w' v' hp h => fun _ _ h0' => by cases (f_19.symm.trans ((hp.2 19 (by decide)).symm.trans h0')); exact h))
    refine steps_cons (fun own a wx hf hsl hE => ?_) ?_
    · obtain ⟨⟨⟨A203, cA203⟩, (f_24 : a.eval (.tmp 24) = .slice A203 x202.length cA203), (b_A203 : RdO own [0] wx R3 A203 cA203 x202)⟩, -⟩ := hf
      exact sg_plain rfl rfl (or_mono (f := Fct.val 2 (.slice A203 x202.length cA203)) (or_assign f_24) (fun own' a' w' v' hp h => fun _ _ h0' => by cases (f_24.symm.trans ((hp.2 24 (by decide)).symm.trans h0')); exact h))
    exact steps_nil
  intro own204 a204 w204 hd204 hz204 hk204 hf204 hE204
  obtain ⟨⟨⟨A199, cA199⟩, (f_14 : a204.eval (.tmp 14) = .slice A199 x198.length cA199), (b_A199 : RdO own204 [0] w204 R48 A199 cA199 x198)⟩, (q_0 : ∀ (A199 : Option Addr) (cA199 : Nat), a204.eval (.tmp 14) = .slice A199 x198.length cA199 → a204.eval (.tmp 0) = .slice A199 x198.length cA199), ⟨⟨A201, cA201⟩, (f_19 : a204.eval (.tmp 19) = .slice A201 x200.length cA201), (b_A201 : RdO own204 [0] w204 R22 A201 cA201 x200)⟩, (q_1 : ∀ (A201 : Option Addr) (cA201 : Nat), a204.eval (.tmp 19) = .slice A201 x200.length cA201 → a204.eval (.tmp 1) = .slice A201 x200.length cA201), ⟨⟨A203, cA203⟩, (f_24 : a204.eval (.tmp 24) = .slice A203 x202.length cA203), (b_A203 : RdO own204 [0] w204 R3 A203 cA203 x202)⟩, (q_2 : ∀ (A203 : Option Addr) (cA203 : Nat), a204.eval (.tmp 24) = .slice A203 x202.length cA203 → a204.eval (.tmp 2) = .slice A203 x202.length cA203), -⟩ := hf204 [4, 15, 9, 16, 14, 17] rfl
  have f_0 := q_0 _ _ f_14
  have f_1 := q_1 _ _ f_19
  have f_2 := q_2 _ _ f_24
  have e204_0 := f_0
  have e204_1 := f_1
  have e204_2 := f_2
  have hX204 := Evo.step hX197 (fun _ => Nat.le_refl 0) hE204 rfl
  have b204_A199 := b_A199
  have b204_A201 := b_A201
  have b204_A203 := b_A203
  refine rg_plain_seq (n := 95) (rs := []) (own0 := own204) (K := [])
      (bs := [0])
      (ds := [⟨[], [], [], Fct.val 7 (.slice none 0 0)⟩]) (by kernel_rfl) hz204 hd204 (fun _ h => nomatch h) ?_ ?_
  · refine steps_cons (fun own a wx hf hsl hE => ?_) ?_
    · exact sg_plain rfl rfl (or_assign rfl)
    exact steps_nil
  intro own205 a205 w205 hd205 hz205 hk205 hf205 hE205
  have e205_0 : a205.eval (.tmp 0) = .slice A199 x198.length cA199 := (hk205 0 rfl).trans e204_0
  have e205_1 : a205.eval (.tmp 1) = .slice A201 x200.length cA201 := (hk205 1 rfl).trans e204_1
  have e205_2 : a205.eval (.tmp 2) = .slice A203 x202.length cA203 := (hk205 2 rfl).trans e204_2
  obtain ⟨(f_7 : a205.eval (.tmp 7) = .slice none 0 0), -⟩ := hf205 [0] rfl
  have e205_7 := f_7
  have hX205 := Evo.step hX204 (fun _ => Nat.le_refl 0) hE205 rfl
  have b205_A199 := RdO.evo rfl hE205 b204_A199
  have b205_A201 := RdO.evo rfl hE205 b204_A201
  have b205_A203 := RdO.evo rfl hE205 b204_A203
  refine fl_seq (fun Q206 hn206 hp206 => ?_)
  refine rg_plain_seq (n := 95) (rs := []) (own0 := own205) (K := [])
      (bs := [0])
      (ds := [⟨[], [], [], Fct.val 8 (.int .i64 0)⟩]) (by kernel_rfl) hz205 hd205 (fun _ h => nomatch h) ?_ ?_
  · refine steps_cons (fun own a wx hf hsl hE => ?_) ?_
    · exact sg_plain rfl rfl (or_assign rfl)
    exact steps_nil
  intro own207 a207 w207 hd207 hz207 hk207 hf207 hE207
  have e207_0 : a207.eval (.tmp 0) = .slice A199 x198.length cA199 := (hk207 0 rfl).trans e205_0
  have e207_1 : a207.eval (.tmp 1) = .slice A201 x200.length cA201 := (hk207 1 rfl).trans e205_1
  have e207_2 : a207.eval (.tmp 2) = .slice A203 x202.length cA203 := (hk207 2 rfl).trans e205_2
  have e207_7 : a207.eval (.tmp 7) = .slice none 0 0 := (hk207 7 rfl).trans e205_7
  obtain ⟨(f_8 : a207.eval (.tmp 8) = .int .i64 0), -⟩ := hf207 [0] rfl
  have e207_8 := f_8
  have hX207 := Evo.step hX205 (fun _ => Nat.le_refl 0) hE207 rfl
  have b207_A199 := RdO.evo rfl hE207 b205_A199
  have b207_A201 := RdO.evo rfl hE207 b205_A201
  have b207_A203 := RdO.evo rfl hE207 b205_A203
  refine fl_block (fun Q208 hn208 hx208 hp208 => ?_)
  refine fl_loop (body := (fun s => law04_OrderSorts_b1 x198 x200 x202 s.1 s.2)) (z := r) (show loopO _ _ = _ from hs) (fun (s : (List (List Int)) × Int) a wx => match s with | (cut231, i234) => ∃ (ox : Own) (A229 : Option Addr) (c230 : Nat), a.defers = [] ∧ a.tmps.size = 95 ∧ a.eval (.tmp 0) = .slice A199 x198.length cA199 ∧ a.eval (.tmp 1) = .slice A201 x200.length cA201 ∧ a.eval (.tmp 2) = .slice A203 x202.length cA203 ∧ a.eval (.tmp 7) = .slice A229 cut231.length c230 ∧ a.eval (.tmp 8) = .int .i64 i234 ∧ Evo [] (fun _ => 0) ox w wx ∧ RdO ox [0] wx R48 A199 cA199 x198 ∧ RdO ox [0] wx R22 A201 cA201 x200 ∧ RdO ox [0] wx R3 A203 cA203 x202 ∧ RwO ox 232 [0, 233] wx 22 R22 A229 c230 cut231) ?_ ?_
  · exact ⟨own207, none, 0, hd207, hz207, e207_0, e207_1, e207_2, e207_7, e207_8, hX207, b207_A199, b207_A201, b207_A203, RwO.nil_⟩
  · rintro ⟨cut231, i234⟩ zz262 a262 w262 ⟨own262, A229, c230, hd263, hz263, e263_0, e263_1, e263_2, e263_7, e263_8, hE263, b263_A199, b263_A201, b263_A203, b263_A229⟩ hs Q262 hn262 hp262 hz262
    have hs : law04_OrderSorts_b1 x198 x200 x202 cut231 i234 = some zz262 := hs
    refine fl_seq (fun Q264 hn264 hp264 => ?_)
    refine rg_plain_seq (n := 95) (rs := []) (own0 := own262) (K := [])
        (bs := [0, 0, 2, 7])
        (ds := [⟨[], [8], [], Fct.val 25 (.int .i64 i234)⟩,
        ⟨[], [1], [], Fct.val 26 (.slice A201 x200.length cA201)⟩,
        ⟨[1], [], [], Fct.val 27 (.int .i64 (x200.length : Int))⟩,
        ⟨[0, 2], [], [], Fct.val 28 (.bool (decide (i234 < (x200.length : Int))))⟩]) (by kernel_rfl) hz263 hd263 (fun _ h => nomatch h) ?_ ?_
    · refine steps_cons (fun own a wx hf hsl hE => ?_) ?_
      · obtain ⟨s_8, -⟩ := hsl
        exact sg_plain rfl rfl (or_move (s_8.trans e263_8))
      refine steps_cons (fun own a wx hf hsl hE => ?_) ?_
      · obtain ⟨s_1, -⟩ := hsl
        exact sg_plain rfl rfl (or_move (s_1.trans e263_1))
      refine steps_cons (fun own a wx hf hsl hE => ?_) ?_
      · obtain ⟨(f_26 : a.eval (.tmp 26) = .slice A201 x200.length cA201), -⟩ := hf
        exact sg_plain rfl rfl (or_len tu35 f_26 rfl)
      refine steps_cons (fun own a wx hf hsl hE => ?_) ?_
      · obtain ⟨(f_25 : a.eval (.tmp 25) = .int .i64 i234), (f_27 : a.eval (.tmp 27) = .int .i64 (x200.length : Int)), -⟩ := hf
        exact sg_plain rfl rfl (or_lss f_25 f_27 rfl)
      exact steps_nil
    intro own265 a265 w265 hd265 hz265 hk265 hf265 hE265
    have e265_0 : a265.eval (.tmp 0) = .slice A199 x198.length cA199 := (hk265 0 rfl).trans e263_0
    have e265_1 : a265.eval (.tmp 1) = .slice A201 x200.length cA201 := (hk265 1 rfl).trans e263_1
    have e265_2 : a265.eval (.tmp 2) = .slice A203 x202.length cA203 := (hk265 2 rfl).trans e263_2
    have e265_7 : a265.eval (.tmp 7) = .slice A229 cut231.length c230 := (hk265 7 rfl).trans e263_7
    have e265_8 : a265.eval (.tmp 8) = .int .i64 i234 := (hk265 8 rfl).trans e263_8
    obtain ⟨(f_28 : a265.eval (.tmp 28) = .bool (decide (i234 < (x200.length : Int)))), -⟩ := hf265 [3] rfl
    have e265_28 := f_28
    have hX265 := Evo.step hE263 (fun _ => Nat.le_refl 0) hE265 rfl
    have b265_A199 := RdO.evo rfl hE265 b263_A199
    have b265_A201 := RdO.evo rfl hE265 b263_A201
    have b265_A203 := RdO.evo rfl hE265 b263_A203
    have b265_A229 := RwO.evo rfl hE265 b263_A229
    refine fl_cond e265_28 hs (fun c266 hs => ?_) (fun c266 hs => ?_)
    · refine fl_skip ?_
      refine hn264 _ _ ?_
      refine fl_seq (fun Q267 hn267 hp267 => ?_)
      refine fl_block (fun Q268 hn268 hx268 hp268 => ?_)
      obtain ⟨x277, hx277, hs⟩ := obind hs
      obtain ⟨x279, hx279, hs⟩ := obind hs
      obtain ⟨x281, hx281, hs⟩ := obind hs
      obtain ⟨x285, hx285, hs⟩ := obind hs
      refine rg_draw g_mixed (n := 95) (rs := [Fct.rowAt 232 [0, 233] 22 R22 A229 c230 cut231]) (own0 := own265) (K := [232])
          (bs := [0, 0, 0, 6, 14, 0, 0, 96, 224, 480, 992, 2046, 4094, 8191, 16383])
          (ds := [⟨[], [7], [], Fct.val 31 (.slice A229 cut231.length c230)⟩,
          ⟨[], [1], [], Fct.val 32 (.slice A201 x200.length cA201)⟩,
          ⟨[], [8], [], Fct.val 33 (.int .i64 i234)⟩,
          ⟨[1, 2], [], [], Fct.val 34 (.pointer (some ((adr A201).add ((i234 : Int).toNat * R22.s))))⟩,
          ⟨[3], [], [], Fct.nest X22 [0] 35 (fun (y : (Option Addr × Nat)) => .slice y.1 x277.length y.2) x277⟩,
          ⟨[], [1], [], Fct.val 36 (.slice A201 x200.length cA201)⟩,
          ⟨[], [8], [], Fct.val 37 (.int .i64 i234)⟩,
          ⟨[5, 6], [], [], Fct.val 38 (.pointer (some ((adr A201).add ((i234 : Int).toNat * R22.s))))⟩,
          ⟨[7], [], [], Fct.nest X22 [0] 39 (fun (y : (Option Addr × Nat)) => .slice y.1 x279.length y.2) x279⟩,
          ⟨[8], [], [], Fct.val 40 (.int .i64 (x279.length : Int))⟩,
          ⟨[9], [], [], Fct.val 41 (.int .i64 (mn (x279.length : Int) 20))⟩,
          ⟨[4, 10], [], [], Fct.view [0] 42 R3 x281⟩,
          ⟨[11], [], [], Fct.row 284 [0] 43 22 R22 [x281]⟩,
          ⟨[0, 12, 15], [], [232], Fct.row 286 [0, 233, 284] 44 22 R22 x285⟩,
          ⟨[13], [], [], Fct.rel [7, 44] (fun l => ∀ (A287 : Option Addr) (cA287 : Nat), l.getD 1 undef = .slice A287 x285.length cA287 → l.getD 0 undef = .slice A287 x285.length cA287)⟩]) (by kernel_rfl) hz265 hd265 (by simp only [List.forall_mem_cons]; exact ⟨b265_A229, fun _ h => nomatch h⟩) ?_ ?_
      · refine steps_cons (fun own a wx hf hsl hE => ?_) ?_
        · obtain ⟨s_7, -⟩ := hsl
          exact sg_plain rfl rfl (or_move (s_7.trans e265_7))
        refine steps_cons (fun own a wx hf hsl hE => ?_) ?_
        · obtain ⟨s_1, -⟩ := hsl
          exact sg_plain rfl rfl (or_move (s_1.trans e265_1))
        refine steps_cons (fun own a wx hf hsl hE => ?_) ?_
        · obtain ⟨s_8, -⟩ := hsl
          exact sg_plain rfl rfl (or_move (s_8.trans e265_8))
        refine steps_cons (fun own a wx hf hsl hE => ?_) ?_
        · obtain ⟨(f_32 : a.eval (.tmp 32) = .slice A201 x200.length cA201), (f_33 : a.eval (.tmp 33) = .int .i64 i234), -⟩ := hf
          exact sg_plain rfl rfl (or_index (R := R22) (l := x200) tl35 f_32 f_33 (RdO.some_ b265_A201 hx277) hx277)
        refine steps_cons (fun own a wx hf hsl hE => ?_) ?_
        · obtain ⟨(f_34 : a.eval (.tmp 34) = .pointer (some ((adr A201).add ((i234 : Int).toNat * R22.s)))), -⟩ := hf
          exact sg_plain rfl rfl (or_loadN1 X22 0 to22 f_34 (Addr.add_zero' _).symm (RdO.evo rfl hE b265_A201) hx277 (fun _ => rfl))
        refine steps_cons (fun own a wx hf hsl hE => ?_) ?_
        · obtain ⟨s_1, -⟩ := hsl
          exact sg_plain rfl rfl (or_move (s_1.trans e265_1))
        refine steps_cons (fun own a wx hf hsl hE => ?_) ?_
        · obtain ⟨s_8, -⟩ := hsl
          exact sg_plain rfl rfl (or_move (s_8.trans e265_8))
        refine steps_cons (fun own a wx hf hsl hE => ?_) ?_
        · obtain ⟨(f_36 : a.eval (.tmp 36) = .slice A201 x200.length cA201), (f_37 : a.eval (.tmp 37) = .int .i64 i234), -⟩ := hf
          exact sg_plain rfl rfl (or_index (R := R22) (l := x200) tl35 f_36 f_37 (RdO.some_ b265_A201 hx279) hx279)
        refine steps_cons (fun own a wx hf hsl hE => ?_) ?_
        · obtain ⟨(f_38 : a.eval (.tmp 38) = .pointer (some ((adr A201).add ((i234 : Int).toNat * R22.s)))), -⟩ := hf
          exact sg_plain rfl rfl (or_loadN1 X22 0 to22 f_38 (Addr.add_zero' _).symm (RdO.evo rfl hE b265_A201) hx279 (fun _ => rfl))
        refine steps_cons (fun own a wx hf hsl hE => ?_) ?_
        · obtain ⟨⟨⟨A280, cA280⟩, (f_39 : a.eval (.tmp 39) = .slice A280 x279.length cA280), (b_A280 : RdO own [0] wx R3 A280 cA280 x279)⟩, -⟩ := hf
          exact sg_plain rfl rfl (or_len tu22 f_39 rfl)
        refine steps_cons (fun own a wx hf hsl hE => ?_) ?_
        · obtain ⟨(f_40 : a.eval (.tmp 40) = .int .i64 (x279.length : Int)), -⟩ := hf
          exact sg_plain rfl rfl (or_min f_40 rfl)
        refine steps_cons (fun own a wx hf hsl hE => ?_) ?_
        · obtain ⟨⟨⟨A278, cA278⟩, (f_35 : a.eval (.tmp 35) = .slice A278 x277.length cA278), (b_A278 : RdO own [0] wx R3 A278 cA278 x277)⟩, (f_41 : a.eval (.tmp 41) = .int .i64 (mn (x279.length : Int) 20)), -⟩ := hf
          exact sg_plain rfl rfl (or_view (R := R3) (l := x277) (L := [0]) tu22 ts3 f_35 Bnd.none_ (Bnd.some_ f_41) Bnd.none_ b_A278 hx281 (.inl rfl) (by simp))
        refine steps_cons (fun own a wx hf hsl hE => ?_) ?_
        · obtain ⟨⟨⟨A282, cA282⟩, (f_42 : a.eval (.tmp 42) = .slice A282 x281.length cA282), (b_A282 : RdO own [0] wx R3 A282 cA282 x281)⟩, -⟩ := hf
          exact sg_plain rfl rfl (or_litN (R := R22) (lab := 284) (L := [0]) (e := 22) (cs := #[.slice A282 x281.length cA282]) (l := [x281]) (n := 1) [(42, .slice A282 x281.length cA282)] rfl rfl ⟨f_42, trivial⟩ (by kernel_rfl) rfl (by decide) ⟨(Ex.iff X22).2 ⟨(A282, cA282), rfl, b_A282⟩, rfl⟩ rfl)
        refine steps_cons (fun own a wx hf hsl hE => ?_) ?_
        · obtain ⟨(f_31 : a.eval (.tmp 31) = .slice A229 cut231.length c230), ⟨⟨A283, cA283⟩, (f_43 : a.eval (.tmp 43) = .slice A283 [x281].length cA283), (b_A283 : RwO own 284 [0] wx 22 R22 A283 cA283 [x281])⟩, (b_A229 : RwO own 232 [0, 233] wx 22 R22 A229 c230 cut231), -⟩ := hf
          exact sg_plain rfl rfl (or_append (R := R22) (lab := 232) (lab2 := 286) (L := [0, 233]) (L3 := [0, 233, 284]) tp35 f_31 b_A229 (by decide) f_43 (RwO.rd b_A283) hx285 (by decide) (by decide) (mem_of rfl) (.inr ⟨rfl, rfl, by decide, by decide⟩))
        refine steps_cons (fun own a wx hf hsl hE => ?_) ?_
        · obtain ⟨⟨⟨A287, cA287⟩, (f_44 : a.eval (.tmp 44) = .slice A287 x285.length cA287), (b_A287 : RwO own 286 [0, 233, 284] wx 22 R22 A287 cA287 x285)⟩, -⟩ := hf
          exact sg_plain rfl rfl (or_mono (f := Fct.val 7 (.slice A287 x285.length cA287)) (or_assign f_44) (fun own' a' w' v' hp h => fun _ _ h0' => by cases (f_44.symm.trans ((hp.2 44 (by decide)).symm.trans h0')); exact h))
        exact steps_nil
      intro own288 a288 w288 hd288 hz288 hk288 hf288 hE288
      have e288_0 : a288.eval (.tmp 0) = .slice A199 x198.length cA199 := (hk288 0 rfl).trans e265_0
      have e288_1 : a288.eval (.tmp 1) = .slice A201 x200.length cA201 := (hk288 1 rfl).trans e265_1
      have e288_2 : a288.eval (.tmp 2) = .slice A203 x202.length cA203 := (hk288 2 rfl).trans e265_2
      have e288_8 : a288.eval (.tmp 8) = .int .i64 i234 := (hk288 8 rfl).trans e265_8
      obtain ⟨⟨⟨A287, cA287⟩, (f_44 : a288.eval (.tmp 44) = .slice A287 x285.length cA287), (b_A287 : RwO own288 286 [0, 233, 284] w288 22 R22 A287 cA287 x285)⟩, (q_7 : ∀ (A287 : Option Addr) (cA287 : Nat), a288.eval (.tmp 44) = .slice A287 x285.length cA287 → a288.eval (.tmp 7) = .slice A287 x285.length cA287), -⟩ := hf288 [13, 14] rfl
      have f_7 := q_7 _ _ f_44
      have e288_7 := f_7
      have hX288 := Evo.step hX265 (fun _ => Nat.le_refl 0) hE288 rfl
      have b288_A199 := RdO.evo rfl hE288 b265_A199
      have b288_A201 := RdO.evo rfl hE288 b265_A201
      have b288_A203 := RdO.evo rfl hE288 b265_A203
      have b288_A287 := b_A287
      refine hn268 _ _ ?_
      refine hn267 _ _ ?_
      refine rg_plain (n := 95) (rs := []) (own0 := own288) (K := [])
          (bs := [0, 1, 3])
          (ds := [⟨[], [8], [], Fct.val 29 (.int .i64 i234)⟩,
          ⟨[0], [], [], Fct.val 30 (.int .i64 (ad i234 1))⟩,
          ⟨[1], [], [], Fct.val 8 (.int .i64 (ad i234 1))⟩]) (by kernel_rfl) hz288 hd288 (fun _ h => nomatch h) ?_ ?_
      · refine steps_cons (fun own a wx hf hsl hE => ?_) ?_
        · obtain ⟨s_8, -⟩ := hsl
          exact sg_plain rfl rfl (or_move (s_8.trans e288_8))
        refine steps_cons (fun own a wx hf hsl hE => ?_) ?_
        · obtain ⟨(f_29 : a.eval (.tmp 29) = .int .i64 i234), -⟩ := hf
          exact sg_plain rfl rfl (or_add f_29 rfl rfl)
        refine steps_cons (fun own a wx hf hsl hE => ?_) ?_
        · obtain ⟨(f_30 : a.eval (.tmp 30) = .int .i64 (ad i234 1)), -⟩ := hf
          exact sg_plain rfl rfl (or_assign f_30)
        exact steps_nil
      intro own289 a289 w289 hd289 hz289 hk289 hf289 hE289
      have e289_0 : a289.eval (.tmp 0) = .slice A199 x198.length cA199 := (hk289 0 rfl).trans e288_0
      have e289_1 : a289.eval (.tmp 1) = .slice A201 x200.length cA201 := (hk289 1 rfl).trans e288_1
      have e289_2 : a289.eval (.tmp 2) = .slice A203 x202.length cA203 := (hk289 2 rfl).trans e288_2
      have e289_7 : a289.eval (.tmp 7) = .slice A287 x285.length cA287 := (hk289 7 rfl).trans e288_7
      obtain ⟨(f_8 : a289.eval (.tmp 8) = .int .i64 (ad i234 1)), -⟩ := hf289 [2] rfl
      have e289_8 := f_8
      have hX289 := Evo.step hX288 (fun _ => Nat.le_refl 0) hE289 rfl
      have b289_A199 := RdO.evo rfl hE289 b288_A199
      have b289_A201 := RdO.evo rfl hE289 b288_A201
      have b289_A203 := RdO.evo rfl hE289 b288_A203
      have b289_A287 := RwO.evo rfl hE289 b288_A287
      exact hn262 _ _ _ hs ⟨(rl [(284, 233), (286, 232)] own289), A287, cA287, hd289, hz289, e289_0, e289_1, e289_2, e289_7, e289_8, (Evo.rl_ hX289 (fun _ => Nat.le_refl 0) rfl), (RdO.rl_ (mm := [(284, 233), (286, 232)]) b289_A199), (RdO.rl_ (mm := [(284, 233), (286, 232)]) b289_A201), (RdO.rl_ (mm := [(284, 233), (286, 232)]) b289_A203), (RwO.more (RwO.rl_ (mm := [(284, 233), (286, 232)]) b289_A287) (by decide))⟩
    refine fl_exit ?_
    refine hp264 _ _ _ rfl ?_
    replace hs := hz262 _ hs
    refine hp262 _ _ _ rfl ?_
    refine hx208 _ _ ?_
    refine hn206 _ _ ?_
    refine fl_seq (fun Q290 hn290 hp290 => ?_)
    refine rg_plain_seq (n := 95) (rs := []) (own0 := own265) (K := [])
        (bs := [0])
        (ds := [⟨[], [], [], Fct.val 9 (.int .i64 1)⟩]) (by kernel_rfl) hz265 hd265 (fun _ h => nomatch h) ?_ ?_
    · refine steps_cons (fun own a wx hf hsl hE => ?_) ?_
      · exact sg_plain rfl rfl (or_assign rfl)
      exact steps_nil
    intro own291 a291 w291 hd291 hz291 hk291 hf291 hE291
    have e291_0 : a291.eval (.tmp 0) = .slice A199 x198.length cA199 := (hk291 0 rfl).trans e265_0
    have e291_2 : a291.eval (.tmp 2) = .slice A203 x202.length cA203 := (hk291 2 rfl).trans e265_2
    have e291_7 : a291.eval (.tmp 7) = .slice A229 cut231.length c230 := (hk291 7 rfl).trans e265_7
    obtain ⟨(f_9 : a291.eval (.tmp 9) = .int .i64 1), -⟩ := hf291 [0] rfl
    have e291_9 := f_9
    have hX291 := Evo.step hX265 (fun _ => Nat.le_refl 0) hE291 rfl
    have b291_A199 := RdO.evo rfl hE291 b265_A199
    have b291_A203 := RdO.evo rfl hE291 b265_A203
    have b291_A229 := RwO.evo rfl hE291 b265_A229
    refine fl_block (fun Q292 hn292 hx292 hp292 => ?_)
    refine fl_loop (body := (fun s => law04_OrderSorts_b2 x198 x202 cut231 s)) (z := r) (show loopO _ _ = _ from hs) (fun (i315 : Int) a wx => ∃ (ox : Own), a.defers = [] ∧ a.tmps.size = 95 ∧ a.eval (.tmp 0) = .slice A199 x198.length cA199 ∧ a.eval (.tmp 2) = .slice A203 x202.length cA203 ∧ a.eval (.tmp 7) = .slice A229 cut231.length c230 ∧ a.eval (.tmp 9) = .int .i64 i315 ∧ Evo [] (fun _ => 0) ox w wx ∧ RdO ox [0] wx R48 A199 cA199 x198 ∧ RdO ox [0] wx R3 A203 cA203 x202 ∧ RwO ox 232 [0, 314] wx 22 R22 A229 c230 cut231) ?_ ?_
    · exact ⟨(rl [(233, 314)] own291), hd291, hz291, e291_0, e291_2, e291_7, e291_9, (Evo.rl_ hX291 (fun _ => Nat.le_refl 0) rfl), (RdO.rl_ (mm := [(233, 314)]) b291_A199), (RdO.rl_ (mm := [(233, 314)]) b291_A203), (RwO.rl_ (mm := [(233, 314)]) b291_A229)⟩
    · rintro i315 zz336 a336 w336 ⟨own336, hd337, hz337, e337_0, e337_2, e337_7, e337_9, hE337, b337_A199, b337_A203, b337_A229⟩ hs Q336 hn336 hp336 hz336
      have hs : law04_OrderSorts_b2 x198 x202 cut231 i315 = some zz336 := hs
      refine fl_seq (fun Q338 hn338 hp338 => ?_)
      refine rg_plain_seq (n := 95) (rs := []) (own0 := own336) (K := [])
          (bs := [0, 0, 2, 7])
          (ds := [⟨[], [9], [], Fct.val 45 (.int .i64 i315)⟩,
          ⟨[], [7], [], Fct.val 46 (.slice A229 cut231.length c230)⟩,
          ⟨[1], [], [], Fct.val 47 (.int .i64 (cut231.length : Int))⟩,
          ⟨[0, 2], [], [], Fct.val 48 (.bool (decide (i315 < (cut231.length : Int))))⟩]) (by kernel_rfl) hz337 hd337 (fun _ h => nomatch h) ?_ ?_
      · refine steps_cons (fun own a wx hf hsl hE => ?_) ?_
        · obtain ⟨s_9, -⟩ := hsl
          exact sg_plain rfl rfl (or_move (s_9.trans e337_9))
        refine steps_cons (fun own a wx hf hsl hE => ?_) ?_
        · obtain ⟨s_7, -⟩ := hsl
          exact sg_plain rfl rfl (or_move (s_7.trans e337_7))
        refine steps_cons (fun own a wx hf hsl hE => ?_) ?_
        · obtain ⟨(f_46 : a.eval (.tmp 46) = .slice A229 cut231.length c230), -⟩ := hf
          exact sg_plain rfl rfl (or_len tu35 f_46 rfl)
        refine steps_cons (fun own a wx hf hsl hE => ?_) ?_
        · obtain ⟨(f_45 : a.eval (.tmp 45) = .int .i64 i315), (f_47 : a.eval (.tmp 47) = .int .i64 (cut231.length : Int)), -⟩ := hf
          exact sg_plain rfl rfl (or_lss f_45 f_47 rfl)
        exact steps_nil
      intro own339 a339 w339 hd339 hz339 hk339 hf339 hE339
      have e339_0 : a339.eval (.tmp 0) = .slice A199 x198.length cA199 := (hk339 0 rfl).trans e337_0
      have e339_2 : a339.eval (.tmp 2) = .slice A203 x202.length cA203 := (hk339 2 rfl).trans e337_2
      have e339_7 : a339.eval (.tmp 7) = .slice A229 cut231.length c230 := (hk339 7 rfl).trans e337_7
      have e339_9 : a339.eval (.tmp 9) = .int .i64 i315 := (hk339 9 rfl).trans e337_9
      obtain ⟨(f_48 : a339.eval (.tmp 48) = .bool (decide (i315 < (cut231.length : Int)))), -⟩ := hf339 [3] rfl
      have e339_48 := f_48
      have hX339 := Evo.step hE337 (fun _ => Nat.le_refl 0) hE339 rfl
      have b339_A199 := RdO.evo rfl hE339 b337_A199
      have b339_A203 := RdO.evo rfl hE339 b337_A203
      have b339_A229 := RwO.evo rfl hE339 b337_A229
      refine fl_cond e339_48 hs (fun c340 hs => ?_) (fun c340 hs => ?_)
      · refine fl_skip ?_
        refine hn338 _ _ ?_
        refine fl_seq (fun Q341 hn341 hp341 => ?_)
        refine fl_block (fun Q342 hn342 hx342 hp342 => ?_)
        obtain ⟨x343, hx343, hs⟩ := obind hs
        obtain ⟨x345, hx345, hs⟩ := obind hs
        obtain ⟨r347, hr347, hs⟩ := obind hs
        obtain ⟨x348, hx348, hs⟩ := obind hs
        obtain ⟨x350, hx350, hs⟩ := obind hs
        obtain ⟨r352, hr352, hs⟩ := obind hs
        refine rg_draw_seq g_mixed (n := 95) (rs := []) (own0 := own339) (K := [])
            (bs := [0, 0, 2, 7, 15, 0, 0, 96, 224, 511, 0, 0, 2048, 7168, 15360, 0, 0, 98304, 229376, 524287, 1048575])
            (ds := [⟨[], [7], [], Fct.val 51 (.slice A229 cut231.length c230)⟩,
            ⟨[], [9], [], Fct.val 52 (.int .i64 i315)⟩,
            ⟨[1], [], [], Fct.val 53 (.int .i64 (sb i315 1))⟩,
            ⟨[0, 2], [], [], Fct.val 54 (.pointer (some ((adr A229).add ((sb i315 1 : Int).toNat * R22.s))))⟩,
            ⟨[3], [], [], Fct.nest X22 [232, 0, 314] 55 (fun (y : (Option Addr × Nat)) => .slice y.1 x343.length y.2) x343⟩,
            ⟨[], [7], [], Fct.val 56 (.slice A229 cut231.length c230)⟩,
            ⟨[], [9], [], Fct.val 57 (.int .i64 i315)⟩,
            ⟨[5, 6], [], [], Fct.val 58 (.pointer (some ((adr A229).add ((i315 : Int).toNat * R22.s))))⟩,
            ⟨[7], [], [], Fct.nest X22 [232, 0, 314] 59 (fun (y : (Option Addr × Nat)) => .slice y.1 x345.length y.2) x345⟩,
            ⟨[4, 8], [], [], Fct.val 60 (.int .i64 r347)⟩,
            ⟨[], [7], [], Fct.val 61 (.slice A229 cut231.length c230)⟩,
            ⟨[], [9], [], Fct.val 62 (.int .i64 i315)⟩,
            ⟨[11], [], [], Fct.val 63 (.int .i64 (sb i315 1))⟩,
            ⟨[10, 12], [], [], Fct.val 64 (.pointer (some ((adr A229).add ((sb i315 1 : Int).toNat * R22.s))))⟩,
            ⟨[13], [], [], Fct.nest X22 [232, 0, 314] 65 (fun (y : (Option Addr × Nat)) => .slice y.1 x348.length y.2) x348⟩,
            ⟨[], [7], [], Fct.val 66 (.slice A229 cut231.length c230)⟩,
            ⟨[], [9], [], Fct.val 67 (.int .i64 i315)⟩,
            ⟨[15, 16], [], [], Fct.val 68 (.pointer (some ((adr A229).add ((i315 : Int).toNat * R22.s))))⟩,
            ⟨[17], [], [], Fct.nest X22 [232, 0, 314] 69 (fun (y : (Option Addr × Nat)) => .slice y.1 x350.length y.2) x350⟩,
            ⟨[14, 18], [], [], Fct.val 70 (.int .i64 r352)⟩,
            ⟨[9, 19], [], [], Fct.val 71 (.bool (!decide (r347 = r352)))⟩]) (by kernel_rfl) hz339 hd339 (fun _ h => nomatch h) ?_ ?_
        · refine steps_cons (fun own a wx hf hsl hE => ?_) ?_
          · obtain ⟨s_7, -⟩ := hsl
            exact sg_plain rfl rfl (or_move (s_7.trans e339_7))
          refine steps_cons (fun own a wx hf hsl hE => ?_) ?_
          · obtain ⟨s_9, -⟩ := hsl
            exact sg_plain rfl rfl (or_move (s_9.trans e339_9))
          refine steps_cons (fun own a wx hf hsl hE => ?_) ?_
          · obtain ⟨(f_52 : a.eval (.tmp 52) = .int .i64 i315), -⟩ := hf
            exact sg_plain rfl rfl (or_sub f_52 rfl rfl)
          refine steps_cons (fun own a wx hf hsl hE => ?_) ?_
          · obtain ⟨(f_51 : a.eval (.tmp 51) = .slice A229 cut231.length c230), (f_53 : a.eval (.tmp 53) = .int .i64 (sb i315 1)), -⟩ := hf
            exact sg_plain rfl rfl (or_index (R := R22) (l := cut231) tl35 f_51 f_53 (RdO.some_ (RwO.rd b339_A229) hx343) hx343)
          refine steps_cons (fun own a wx hf hsl hE => ?_) ?_
          · obtain ⟨(f_54 : a.eval (.tmp 54) = .pointer (some ((adr A229).add ((sb i315 1 : Int).toNat * R22.s)))), -⟩ := hf
            exact sg_plain rfl rfl (or_loadN1 X22 0 to22 f_54 (Addr.add_zero' _).symm (RwO.rd (RwO.evo rfl hE b339_A229)) hx343 (fun _ => rfl))
          refine steps_cons (fun own a wx hf hsl hE => ?_) ?_
          · obtain ⟨s_7, -⟩ := hsl
            exact sg_plain rfl rfl (or_move (s_7.trans e339_7))
          refine steps_cons (fun own a wx hf hsl hE => ?_) ?_
          · obtain ⟨s_9, -⟩ := hsl
            exact sg_plain rfl rfl (or_move (s_9.trans e339_9))
          refine steps_cons (fun own a wx hf hsl hE => ?_) ?_
          · obtain ⟨(f_56 : a.eval (.tmp 56) = .slice A229 cut231.length c230), (f_57 : a.eval (.tmp 57) = .int .i64 i315), -⟩ := hf
            exact sg_plain rfl rfl (or_index (R := R22) (l := cut231) tl35 f_56 f_57 (RdO.some_ (RwO.rd b339_A229) hx345) hx345)
          refine steps_cons (fun own a wx hf hsl hE => ?_) ?_
          · obtain ⟨(f_58 : a.eval (.tmp 58) = .pointer (some ((adr A229).add ((i315 : Int).toNat * R22.s)))), -⟩ := hf
            exact sg_plain rfl rfl (or_loadN1 X22 0 to22 f_58 (Addr.add_zero' _).symm (RwO.rd (RwO.evo rfl hE b339_A229)) hx345 (fun _ => rfl))
          refine steps_cons (fun own a wx hf hsl hE => ?_) ?_
          · obtain ⟨⟨⟨A344, cA344⟩, (f_55 : a.eval (.tmp 55) = .slice A344 x343.length cA344), (b_A344 : RdO own [232, 0, 314] wx R3 A344 cA344 x343)⟩, ⟨⟨A346, cA346⟩, (f_59 : a.eval (.tmp 59) = .slice A346 x345.length cA346), (b_A346 : RdO own [232, 0, 314] wx R3 A346 cA346 x345)⟩, -⟩ := hf
            exact sg_plain rfl rfl (or_call cf16 (args2 f_55 f_59) (order_Compare_w _ x343 A344 cA344 x345 A346 cA346 (RdO.zero b_A344) (RdO.zero b_A346) r347 hr347) post_val)
          refine steps_cons (fun own a wx hf hsl hE => ?_) ?_
          · obtain ⟨s_7, -⟩ := hsl
            exact sg_plain rfl rfl (or_move (s_7.trans e339_7))
          refine steps_cons (fun own a wx hf hsl hE => ?_) ?_
          · obtain ⟨s_9, -⟩ := hsl
            exact sg_plain rfl rfl (or_move (s_9.trans e339_9))
          refine steps_cons (fun own a wx hf hsl hE => ?_) ?_
          · obtain ⟨(f_62 : a.eval (.tmp 62) = .int .i64 i315), -⟩ := hf
            exact sg_plain rfl rfl (or_sub f_62 rfl rfl)
          refine steps_cons (fun own a wx hf hsl hE => ?_) ?_
          · obtain ⟨(f_61 : a.eval (.tmp 61) = .slice A229 cut231.length c230), (f_63 : a.eval (.tmp 63) = .int .i64 (sb i315 1)), -⟩ := hf
            exact sg_plain rfl rfl (or_index (R := R22) (l := cut231) tl35 f_61 f_63 (RdO.some_ (RwO.rd b339_A229) hx348) hx348)
          refine steps_cons (fun own a wx hf hsl hE => ?_) ?_
          · obtain ⟨(f_64 : a.eval (.tmp 64) = .pointer (some ((adr A229).add ((sb i315 1 : Int).toNat * R22.s)))), -⟩ := hf
            exact sg_plain rfl rfl (or_loadN1 X22 0 to22 f_64 (Addr.add_zero' _).symm (RwO.rd (RwO.evo rfl hE b339_A229)) hx348 (fun _ => rfl))
          refine steps_cons (fun own a wx hf hsl hE => ?_) ?_
          · obtain ⟨s_7, -⟩ := hsl
            exact sg_plain rfl rfl (or_move (s_7.trans e339_7))
          refine steps_cons (fun own a wx hf hsl hE => ?_) ?_
          · obtain ⟨s_9, -⟩ := hsl
            exact sg_plain rfl rfl (or_move (s_9.trans e339_9))
          refine steps_cons (fun own a wx hf hsl hE => ?_) ?_
          · obtain ⟨(f_66 : a.eval (.tmp 66) = .slice A229 cut231.length c230), (f_67 : a.eval (.tmp 67) = .int .i64 i315), -⟩ := hf
            exact sg_plain rfl rfl (or_index (R := R22) (l := cut231) tl35 f_66 f_67 (RdO.some_ (RwO.rd b339_A229) hx350) hx350)
          refine steps_cons (fun own a wx hf hsl hE => ?_) ?_
          · obtain ⟨(f_68 : a.eval (.tmp 68) = .pointer (some ((adr A229).add ((i315 : Int).toNat * R22.s)))), -⟩ := hf
            exact sg_plain rfl rfl (or_loadN1 X22 0 to22 f_68 (Addr.add_zero' _).symm (RwO.rd (RwO.evo rfl hE b339_A229)) hx350 (fun _ => rfl))
          refine steps_cons (fun own a wx hf hsl hE => ?_) ?_
          · obtain ⟨⟨⟨A349, cA349⟩, (f_65 : a.eval (.tmp 65) = .slice A349 x348.length cA349), (b_A349 : RdO own [232, 0, 314] wx R3 A349 cA349 x348)⟩, ⟨⟨A351, cA351⟩, (f_69 : a.eval (.tmp 69) = .slice A351 x350.length cA351), (b_A351 : RdO own [232, 0, 314] wx R3 A351 cA351 x350)⟩, -⟩ := hf
            exact sg_plain rfl rfl (or_call cf17 (args2 f_65 f_69) (ref04_Compare_w _ x348 A349 cA349 x350 A351 cA351 (RdO.zero b_A349) (RdO.zero b_A351) r352 hr352) post_val)
          refine steps_cons (fun own a wx hf hsl hE => ?_) ?_
          · obtain ⟨(f_60 : a.eval (.tmp 60) = .int .i64 r347), (f_70 : a.eval (.tmp 70) = .int .i64 r352), -⟩ := hf
            exact sg_plain rfl rfl (or_neq f_60 f_70 rfl)
          exact steps_nil
        intro own353 a353 w353 hd353 hz353 hk353 hf353 hE353
        have e353_0 : a353.eval (.tmp 0) = .slice A199 x198.length cA199 := (hk353 0 rfl).trans e339_0
        have e353_2 : a353.eval (.tmp 2) = .slice A203 x202.length cA203 := (hk353 2 rfl).trans e339_2
        have e353_7 : a353.eval (.tmp 7) = .slice A229 cut231.length c230 := (hk353 7 rfl).trans e339_7
        have e353_9 : a353.eval (.tmp 9) = .int .i64 i315 := (hk353 9 rfl).trans e339_9
        obtain ⟨(f_71 : a353.eval (.tmp 71) = .bool (!decide (r347 = r352))), -⟩ := hf353 [20] rfl
        have e353_71 := f_71
        have hX353 := Evo.step hX339 (fun _ => Nat.le_refl 0) hE353 rfl
        have b353_A199 := RdO.evo rfl hE353 b339_A199
        have b353_A203 := RdO.evo rfl hE353 b339_A203
        have b353_A229 := RwO.evo rfl hE353 b339_A229
        refine fl_cond e353_71 hs (fun c354 hs => ?_) (fun c354 hs => ?_)
        · refine rg_plain_seq (n := 95) (rs := []) (own0 := own353) (K := [])
              (bs := [0])
              (ds := [⟨[], [], [], Fct.val 6 (.bool false)⟩]) (by kernel_rfl) hz353 hd353 (fun _ h => nomatch h) ?_ ?_
          · refine steps_cons (fun own a wx hf hsl hE => ?_) ?_
            · exact sg_plain rfl rfl (or_assign rfl)
            exact steps_nil
          intro own355 a355 w355 hd355 hz355 hk355 hf355 hE355
          obtain ⟨(f_6 : a355.eval (.tmp 6) = .bool false), -⟩ := hf355 [0] rfl
          have e355_6 := f_6
          have hX355 := Evo.step hX353 (fun _ => Nat.le_refl 0) hE355 rfl
          refine fl_ret ?_
          refine hp342 _ _ _ rfl ?_
          refine hp341 _ _ _ rfl ?_
          replace hs := hz336 _ hs
          refine hp336 _ _ _ rfl ?_
          refine hp292 _ _ _ rfl ?_
          refine hp290 _ _ _ rfl ?_
          obtain rfl := osome hs
          exact hret _ _ _ _ (.inl rfl) hd355 (results1_ rfl (RVal.tmp_ e355_6)) ⟨own355, rfl, hX355⟩
        refine fl_skip ?_
        refine hn342 _ _ ?_
        refine hn341 _ _ ?_
        refine rg_plain (n := 95) (rs := []) (own0 := own353) (K := [])
            (bs := [0, 1, 3])
            (ds := [⟨[], [9], [], Fct.val 49 (.int .i64 i315)⟩,
            ⟨[0], [], [], Fct.val 50 (.int .i64 (ad i315 1))⟩,
            ⟨[1], [], [], Fct.val 9 (.int .i64 (ad i315 1))⟩]) (by kernel_rfl) hz353 hd353 (fun _ h => nomatch h) ?_ ?_
        · refine steps_cons (fun own a wx hf hsl hE => ?_) ?_
          · obtain ⟨s_9, -⟩ := hsl
            exact sg_plain rfl rfl (or_move (s_9.trans e353_9))
          refine steps_cons (fun own a wx hf hsl hE => ?_) ?_
          · obtain ⟨(f_49 : a.eval (.tmp 49) = .int .i64 i315), -⟩ := hf
            exact sg_plain rfl rfl (or_add f_49 rfl rfl)
          refine steps_cons (fun own a wx hf hsl hE => ?_) ?_
          · obtain ⟨(f_50 : a.eval (.tmp 50) = .int .i64 (ad i315 1)), -⟩ := hf
            exact sg_plain rfl rfl (or_assign f_50)
          exact steps_nil
        intro own356 a356 w356 hd356 hz356 hk356 hf356 hE356
        have e356_0 : a356.eval (.tmp 0) = .slice A199 x198.length cA199 := (hk356 0 rfl).trans e353_0
        have e356_2 : a356.eval (.tmp 2) = .slice A203 x202.length cA203 := (hk356 2 rfl).trans e353_2
        have e356_7 : a356.eval (.tmp 7) = .slice A229 cut231.length c230 := (hk356 7 rfl).trans e353_7
        obtain ⟨(f_9 : a356.eval (.tmp 9) = .int .i64 (ad i315 1)), -⟩ := hf356 [2] rfl
        have e356_9 := f_9
        have hX356 := Evo.step hX353 (fun _ => Nat.le_refl 0) hE356 rfl
        have b356_A199 := RdO.evo rfl hE356 b353_A199
        have b356_A203 := RdO.evo rfl hE356 b353_A203
        have b356_A229 := RwO.evo rfl hE356 b353_A229
        exact hn336 _ _ _ hs ⟨own356, hd356, hz356, e356_0, e356_2, e356_7, e356_9, hX356, b356_A199, b356_A203, b356_A229⟩
      refine fl_exit ?_
      refine hp338 _ _ _ rfl ?_
      replace hs := hz336 _ hs
      refine hp336 _ _ _ rfl ?_
      refine hx292 _ _ ?_
      refine hn290 _ _ ?_
      obtain ⟨r357, hr357, hs⟩ := obind hs
      obtain ⟨r358, hr358, hs⟩ := obind hs
      obtain ⟨r361, hr361, hs⟩ := obind hs
      obtain ⟨r364, hr364, hs⟩ := obind hs
      obtain ⟨r367, hr367, hs⟩ := obind hs
      obtain ⟨r368, hr368, hs⟩ := obind hs
      obtain ⟨r371, hr371, hs⟩ := obind hs
      obtain ⟨r374, hr374, hs⟩ := obind hs
      obtain ⟨r375, hr375, hs⟩ := obind hs
      obtain ⟨r378, hr378, hs⟩ := obind hs
      obtain ⟨r381, hr381, hs⟩ := obind hs
      refine rg_plain_seq (n := 95) (rs := []) (own0 := own339) (K := [])
          (bs := [0, 1, 3, 7, 3, 31, 63, 127, 255, 511, 1023, 2047, 1023, 8191, 16383, 32767, 65535, 131071, 262143, 131071, 1048575, 2097151, 4194303, 8388607])
          (ds := [⟨[], [], [], Fct.val 72 (.bool r357)⟩,
          ⟨[0], [], [], Fct.val 73 (.bool r357)⟩,
          ⟨[1], [0], [], Fct.cond r357 (some 74) (Fct.val 74 (.slice A199 x198.length cA199))⟩,
          ⟨[1, 2], [], [], Fct.cond r357 (some 75) (Fct.row 360 [] 75 48 R48 r358)⟩,
          ⟨[1], [0], [], Fct.cond r357 (some 76) (Fct.val 76 (.slice A199 x198.length cA199))⟩,
          ⟨[1, 4], [], [], Fct.cond r357 (some 77) (Fct.row 363 [] 77 57 R57 r361)⟩,
          ⟨[1, 5], [], [], Fct.cond r357 (some 78) (Fct.row 366 [] 78 57 R57 r364)⟩,
          ⟨[1, 3, 6], [], [], Fct.cond r357 (some 79) (Fct.val 79 (.bool r367))⟩,
          ⟨[1, 7], [], [], Fct.val 80 (.bool (r357 && r367))⟩,
          ⟨[8], [], [], Fct.val 81 (.bool (r357 && r367))⟩,
          ⟨[9], [7], [], Fct.cond (r357 && r367) (some 82) (Fct.val 82 (.slice A229 cut231.length c230))⟩,
          ⟨[9, 10], [], [], Fct.cond (r357 && r367) (some 83) (Fct.row 370 [] 83 3 R3 r368)⟩,
          ⟨[9], [7], [], Fct.cond (r357 && r367) (some 84) (Fct.val 84 (.slice A229 cut231.length c230))⟩,
          ⟨[9, 12], [], [], Fct.cond (r357 && r367) (some 85) (Fct.row 373 [] 85 3 R3 r371)⟩,
          ⟨[9, 11, 13], [], [], Fct.cond (r357 && r367) (some 86) (Fct.val 86 (.bool r374))⟩,
          ⟨[9, 14], [], [], Fct.val 87 (.bool ((r357 && r367) && r374))⟩,
          ⟨[15], [], [], Fct.val 88 (.bool ((r357 && r367) && r374))⟩,
          ⟨[16], [2], [], Fct.cond ((r357 && r367) && r374) (some 89) (Fct.val 89 (.slice A203 x202.length cA203))⟩,
          ⟨[16, 17], [], [], Fct.cond ((r357 && r367) && r374) (some 90) (Fct.row 377 [] 90 3 R3 r375)⟩,
          ⟨[16], [2], [], Fct.cond ((r357 && r367) && r374) (some 91) (Fct.val 91 (.slice A203 x202.length cA203))⟩,
          ⟨[16, 19], [], [], Fct.cond ((r357 && r367) && r374) (some 92) (Fct.row 380 [] 92 3 R3 r378)⟩,
          ⟨[16, 18, 20], [], [], Fct.cond ((r357 && r367) && r374) (some 93) (Fct.val 93 (.bool r381))⟩,
          ⟨[16, 21], [], [], Fct.val 94 (.bool (((r357 && r367) && r374) && r381))⟩,
          ⟨[22], [], [], Fct.val 6 (.bool (((r357 && r367) && r374) && r381))⟩]) (by kernel_rfl) hz339 hd339 (fun _ h => nomatch h) ?_ ?_
      · refine steps_cons (fun own a wx hf hsl hE => ?_) ?_
        · exact sg_plain rfl rfl (or_call cf10 (args0) (law04_known_w _   r357 hr357) post_val)
        refine steps_cons (fun own a wx hf hsl hE => ?_) ?_
        · obtain ⟨(f_72 : a.eval (.tmp 72) = .bool r357), -⟩ := hf
          exact sg_plain rfl rfl (or_move f_72)
        refine steps_cons (fun own a wx hf hsl hE => ?_) ?_
        · obtain ⟨(f_73 : a.eval (.tmp 73) = .bool r357), -⟩ := hf
          obtain ⟨s_0, -⟩ := hsl
          refine sg_t rfl rfl rfl f_73 (fun hg => ?_)
          exact or_move (s_0.trans e339_0)
        refine steps_cons (fun own a wx hf hsl hE => ?_) ?_
        · obtain ⟨(f_73 : a.eval (.tmp 73) = .bool r357), c_74, -⟩ := hf
          refine sg_t rfl rfl rfl f_73 (fun hg => ?_)
          have f_74 : a.eval (.tmp 74) = .slice A199 x198.length cA199 := c_74.1 hg
          exact or_call cf19 (args1 f_74) (order_Points_w _ x198 A199 cA199 (RdO.zero (RdO.evo rfl hE b339_A199)) r358 (gd_t hr358 hg)) (post_row (m' := (look0 [(1, 360)])) (.inl (Rep.fl_flat _)) rfl rfl (fun _ => rfl))
        refine steps_cons (fun own a wx hf hsl hE => ?_) ?_
        · obtain ⟨(f_73 : a.eval (.tmp 73) = .bool r357), -⟩ := hf
          obtain ⟨s_0, -⟩ := hsl
          refine sg_t rfl rfl rfl f_73 (fun hg => ?_)
          exact or_move (s_0.trans e339_0)
        refine steps_cons (fun own a wx hf hsl hE => ?_) ?_
        · obtain ⟨(f_73 : a.eval (.tmp 73) = .bool r357), c_76, -⟩ := hf
          refine sg_t rfl rfl rfl f_73 (fun hg => ?_)
          have f_76 : a.eval (.tmp 76) = .slice A199 x198.length cA199 := c_76.1 hg
          exact or_call cf21 (args1 f_76) (law01_Ofs_w _ x198 A199 cA199 (RdO.zero (RdO.evo rfl hE b339_A199)) r361 (gd_t hr361 hg)) (post_row (m' := (look0 [(1, 363)])) (.inl (Rep.fl_flat _)) rfl rfl (fun _ => rfl))
        refine steps_cons (fun own a wx hf hsl hE => ?_) ?_
        · obtain ⟨(f_73 : a.eval (.tmp 73) = .bool r357), c_77, -⟩ := hf
          refine sg_t rfl rfl rfl f_73 (fun hg => ?_)
          obtain ⟨⟨A362, cA362⟩, (f_77 : a.eval (.tmp 77) = .slice A362 r361.length cA362), (b_A362 : RwO own 363 [] wx 57 R57 A362 cA362 r361)⟩ := c_77.1 hg
          exact or_call cf20 (args1 f_77) (ref04_Points_w _ r361 A362 cA362 (RdO.zero (RwO.rd b_A362)) r364 (gd_t hr364 hg)) (post_row (m' := (look0 [(1, 366)])) (.inl (Rep.fl_flat _)) rfl rfl (fun _ => rfl))
        refine steps_cons (fun own a wx hf hsl hE => ?_) ?_
        · obtain ⟨(f_73 : a.eval (.tmp 73) = .bool r357), c_75, c_78, -⟩ := hf
          refine sg_t rfl rfl rfl f_73 (fun hg => ?_)
          obtain ⟨⟨A359, cA359⟩, (f_75 : a.eval (.tmp 75) = .slice A359 r358.length cA359), (b_A359 : RwO own 360 [] wx 48 R48 A359 cA359 r358)⟩ := c_75.1 hg
          obtain ⟨⟨A365, cA365⟩, (f_78 : a.eval (.tmp 78) = .slice A365 r364.length cA365), (b_A365 : RwO own 366 [] wx 57 R57 A365 cA365 r364)⟩ := c_78.1 hg
          exact or_call cf18 (args2 f_75 f_78) (law03_Same_w _ r358 A359 cA359 r364 A365 cA365 (RdO.zero (RwO.rd b_A359)) (RdO.zero (RwO.rd b_A365)) r367 (gd_t hr367 hg)) post_val
        refine steps_cons (fun own a wx hf hsl hE => ?_) ?_
        · obtain ⟨(f_73 : a.eval (.tmp 73) = .bool r357), c_79, -⟩ := hf
          exact sg_plain rfl rfl (or_and f_73 (fun hx => c_79.1 hx) rfl rfl)
        refine steps_cons (fun own a wx hf hsl hE => ?_) ?_
        · obtain ⟨(f_80 : a.eval (.tmp 80) = .bool (r357 && r367)), -⟩ := hf
          exact sg_plain rfl rfl (or_move f_80)
        refine steps_cons (fun own a wx hf hsl hE => ?_) ?_
        · obtain ⟨(f_81 : a.eval (.tmp 81) = .bool (r357 && r367)), -⟩ := hf
          obtain ⟨s_7, -⟩ := hsl
          refine sg_t rfl rfl rfl f_81 (fun hg => ?_)
          exact or_move (s_7.trans e339_7)
        refine steps_cons (fun own a wx hf hsl hE => ?_) ?_
        · obtain ⟨(f_81 : a.eval (.tmp 81) = .bool (r357 && r367)), c_82, -⟩ := hf
          refine sg_t rfl rfl rfl f_81 (fun hg => ?_)
          have f_82 : a.eval (.tmp 82) = .slice A229 cut231.length c230 := c_82.1 hg
          exact or_call cf22 (args1 f_82) (order_Rows_w _ cut231 A229 c230 (RdO.zero (RwO.rd (RwO.evo rfl hE b339_A229))) r368 (gd_t hr368 hg)) (post_row (m' := (look0 [(1, 370)])) (.inl (Rep.fl_flat _)) rfl rfl (fun _ => rfl))
        refine steps_cons (fun own a wx hf hsl hE => ?_) ?_
        · obtain ⟨(f_81 : a.eval (.tmp 81) = .bool (r357 && r367)), -⟩ := hf
          obtain ⟨s_7, -⟩ := hsl
          refine sg_t rfl rfl rfl f_81 (fun hg => ?_)
          exact or_move (s_7.trans e339_7)
        refine steps_cons (fun own a wx hf hsl hE => ?_) ?_
        · obtain ⟨(f_81 : a.eval (.tmp 81) = .bool (r357 && r367)), c_84, -⟩ := hf
          refine sg_t rfl rfl rfl f_81 (fun hg => ?_)
          have f_84 : a.eval (.tmp 84) = .slice A229 cut231.length c230 := c_84.1 hg
          exact or_call cf23 (args1 f_84) (ref04_Rows_w _ cut231 A229 c230 (RdO.zero (RwO.rd (RwO.evo rfl hE b339_A229))) r371 (gd_t hr371 hg)) (post_row (m' := (look0 [(1, 373)])) (.inl (Rep.fl_flat _)) rfl rfl (fun _ => rfl))
        refine steps_cons (fun own a wx hf hsl hE => ?_) ?_
        · obtain ⟨(f_81 : a.eval (.tmp 81) = .bool (r357 && r367)), c_83, c_85, -⟩ := hf
          refine sg_t rfl rfl rfl f_81 (fun hg => ?_)
          obtain ⟨⟨A369, cA369⟩, (f_83 : a.eval (.tmp 83) = .slice A369 r368.length cA369), (b_A369 : RwO own 370 [] wx 3 R3 A369 cA369 r368)⟩ := c_83.1 hg
          obtain ⟨⟨A372, cA372⟩, (f_85 : a.eval (.tmp 85) = .slice A372 r371.length cA372), (b_A372 : RwO own 373 [] wx 3 R3 A372 cA372 r371)⟩ := c_85.1 hg
          exact or_call cf13 (args2 f_83 f_85) (law04_Ints_w _ r368 A369 cA369 r371 A372 cA372 (RdO.zero (RwO.rd b_A369)) (RdO.zero (RwO.rd b_A372)) r374 (gd_t hr374 hg)) post_val
        refine steps_cons (fun own a wx hf hsl hE => ?_) ?_
        · obtain ⟨(f_81 : a.eval (.tmp 81) = .bool (r357 && r367)), c_86, -⟩ := hf
          exact sg_plain rfl rfl (or_and f_81 (fun hx => c_86.1 hx) rfl rfl)
        refine steps_cons (fun own a wx hf hsl hE => ?_) ?_
        · obtain ⟨(f_87 : a.eval (.tmp 87) = .bool ((r357 && r367) && r374)), -⟩ := hf
          exact sg_plain rfl rfl (or_move f_87)
        refine steps_cons (fun own a wx hf hsl hE => ?_) ?_
        · obtain ⟨(f_88 : a.eval (.tmp 88) = .bool ((r357 && r367) && r374)), -⟩ := hf
          obtain ⟨s_2, -⟩ := hsl
          refine sg_t rfl rfl rfl f_88 (fun hg => ?_)
          exact or_move (s_2.trans e339_2)
        refine steps_cons (fun own a wx hf hsl hE => ?_) ?_
        · obtain ⟨(f_88 : a.eval (.tmp 88) = .bool ((r357 && r367) && r374)), c_89, -⟩ := hf
          refine sg_t rfl rfl rfl f_88 (fun hg => ?_)
          have f_89 : a.eval (.tmp 89) = .slice A203 x202.length cA203 := c_89.1 hg
          exact or_call cf24 (args1 f_89) (order_Uniq_w _ x202 A203 cA203 (RdO.zero (RdO.evo rfl hE b339_A203)) r375 (gd_t hr375 hg)) (post_row (m' := (look0 [(1, 377)])) (.inl (Rep.fl_flat _)) rfl rfl (fun _ => rfl))
        refine steps_cons (fun own a wx hf hsl hE => ?_) ?_
        · obtain ⟨(f_88 : a.eval (.tmp 88) = .bool ((r357 && r367) && r374)), -⟩ := hf
          obtain ⟨s_2, -⟩ := hsl
          refine sg_t rfl rfl rfl f_88 (fun hg => ?_)
          exact or_move (s_2.trans e339_2)
        refine steps_cons (fun own a wx hf hsl hE => ?_) ?_
        · obtain ⟨(f_88 : a.eval (.tmp 88) = .bool ((r357 && r367) && r374)), c_91, -⟩ := hf
          refine sg_t rfl rfl rfl f_88 (fun hg => ?_)
          have f_91 : a.eval (.tmp 91) = .slice A203 x202.length cA203 := c_91.1 hg
          exact or_call cf25 (args1 f_91) (ref04_Uniq_w _ x202 A203 cA203 (RdO.zero (RdO.evo rfl hE b339_A203)) r378 (gd_t hr378 hg)) (post_row (m' := (look0 [(1, 380)])) (.inl (Rep.fl_flat _)) rfl rfl (fun _ => rfl))
        refine steps_cons (fun own a wx hf hsl hE => ?_) ?_
        · obtain ⟨(f_88 : a.eval (.tmp 88) = .bool ((r357 && r367) && r374)), c_90, c_92, -⟩ := hf
          refine sg_t rfl rfl rfl f_88 (fun hg => ?_)
          obtain ⟨⟨A376, cA376⟩, (f_90 : a.eval (.tmp 90) = .slice A376 r375.length cA376), (b_A376 : RwO own 377 [] wx 3 R3 A376 cA376 r375)⟩ := c_90.1 hg
          obtain ⟨⟨A379, cA379⟩, (f_92 : a.eval (.tmp 92) = .slice A379 r378.length cA379), (b_A379 : RwO own 380 [] wx 3 R3 A379 cA379 r378)⟩ := c_92.1 hg
          exact or_call cf13 (args2 f_90 f_92) (law04_Ints_w _ r375 A376 cA376 r378 A379 cA379 (RdO.zero (RwO.rd b_A376)) (RdO.zero (RwO.rd b_A379)) r381 (gd_t hr381 hg)) post_val
        refine steps_cons (fun own a wx hf hsl hE => ?_) ?_
        · obtain ⟨(f_88 : a.eval (.tmp 88) = .bool ((r357 && r367) && r374)), c_93, -⟩ := hf
          exact sg_plain rfl rfl (or_and f_88 (fun hx => c_93.1 hx) rfl rfl)
        refine steps_cons (fun own a wx hf hsl hE => ?_) ?_
        · obtain ⟨(f_94 : a.eval (.tmp 94) = .bool (((r357 && r367) && r374) && r381)), -⟩ := hf
          exact sg_plain rfl rfl (or_assign f_94)
        exact steps_nil
      intro own382 a382 w382 hd382 hz382 hk382 hf382 hE382
      obtain ⟨(f_6 : a382.eval (.tmp 6) = .bool (((r357 && r367) && r374) && r381)), -⟩ := hf382 [23] rfl
      have e382_6 := f_6
      have hX382 := Evo.step hX339 (fun _ => Nat.le_refl 0) hE382 rfl
      refine fl_ret ?_
      obtain rfl := osome hs
      exact hret _ _ _ _ (.inl rfl) hd382 (results1_ rfl (RVal.tmp_ e382_6)) ⟨own382, rfl, hX382⟩

end Go.Proofs.Ythbjlgklmamhjaa
