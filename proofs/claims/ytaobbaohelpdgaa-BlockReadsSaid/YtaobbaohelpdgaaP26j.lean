import Derived.Test.YtaobbaohelpdgaaP26i
namespace Go.Proofs.Ytaobbaohelpdgaa.Pl
set_option maxRecDepth 4000
section
variable {S R A : Type}
noncomputable def thenL (body : S → Option (S ⊕ R)) (x : Option (S ⊕ R)) : Option R := x.bind fun y => Sum.elim (loopO body) some y
theorem loopO_then (body : S → Option (S ⊕ R)) (s : S) : loopO body s = thenL body (body s) := by
  cases h : body s with
  | none => rw [loopO_eq, h]; rfl
  | some y =>
    cases y with
    | inl t => rw [loopO_inl h]; rfl
    | inr r => rw [loopO_inr h]; rfl
theorem thenL_ret (body : S → Option (S ⊕ R)) (x : Option R) : thenL body (x.map Sum.inr) = x := by cases x <;> rfl
theorem thenL_bind (body : S → Option (S ⊕ R)) (x : Option A) (F : A → Option (S ⊕ R)) : thenL body (x.bind F) = x.bind fun a => thenL body (F a) := by cases x <;> rfl
theorem thenL_inl (body : S → Option (S ⊕ R)) (s : S) : thenL body (some (.inl s)) = loopO body s := rfl
end
abbrev NetR := NetP × Int × Int
def badR (e : Int) : Option NetR := some (([], []), 0, e)
section
variable {b : List Int} (hb : ∀ x ∈ b, U8 x) (hl : b.length ≤ 1000000)
include hb hl
theorem rTake_eq (i : Nat) (hi : i ≤ b.length) : ref26_Take (b, (i : Int), 0) = some ((b, ((i + (num (b.drop i)).2.1 : Nat) : Int), (num (b.drop i)).2.2), ((num (b.drop i)).1 : Int)) := by
  unfold ref26_Take
  dsimp only
  have hd := rd_len hb i
  rw [decide_eq_true rfl, Bool.not_true, if_neg (by decide), cut_from hi, bind_some', rRead_eq (fun x hx => hb x (List.mem_of_mem_drop hx)) (by rw [List.length_drop]; omega), bind_some']
  unfold numI
  dsimp only
  rw [ad_in (by omega)]
  rw [show (i : Int) + ((num (b.drop i)).2.1 : Int) = ((i + (num (b.drop i)).2.1 : Nat) : Int) by omega]
omit hb hl in
theorem take_bad {c : (List Int) × Int × Int} (h : c.2.2 ≠ 0) : ref26_Take c = some (c, 0) := by
  unfold ref26_Take
  rw [decide_eq_false h]; rfl
theorem rUp_eq {β : Type} (i : Nat) (hi : i ≤ b.length) (g : Nat) (hg : g ≤ 100000) (e0 : Int) (he : e0 ≠ 0) (F : ((List Int) × Int × Int) × Int → Option β) :
    (ref26_Up (b, (i : Int), 0) (g : Int) e0).bind F = goR (runA b (upP g e0) i) (fun k j => F ((b, (j : Int), 0), (k : Int))) (fun e => F ((b, ((i + (num (b.drop i)).2.1 : Nat) : Int), e), 0)) := by
  unfold ref26_Up upP
  have hlt := num_lt (l := b.drop i) (fun x hx => hb x (List.mem_of_mem_drop hx))
  rw [rTake_eq hb hl i hi, bind_some', runA]
  dsimp only
  rw [u64_nat (by omega), bind_some']
  by_cases h : (num (b.drop i)).2.2 = 0
  · rw [if_pos h, decide_eq_true h, Bool.true_and]
    by_cases h2 : (num (b.drop i)).1 ≤ g
    · rw [if_pos h2, decide_eq_false (by omega), if_neg (by decide)]
      unfold ref26_Up_k1
      dsimp only
      rw [decide_eq_true h, Bool.not_true, if_neg (by decide), h, bind_some', show IntKind.i64.wrap ((num (b.drop i)).1 : Int) = ((num (b.drop i)).1 : Int) from IntWalk.i64_in _ (by omega)]; rfl
    · rw [if_neg h2, decide_eq_true (by omega), if_pos rfl]
      unfold ref26_Up_k1
      dsimp only
      rw [decide_eq_false he, Bool.not_false, if_pos rfl, bind_some']; rfl
  · rw [if_neg h, decide_eq_false h, Bool.false_and, if_neg (by decide)]
    unfold ref26_Up_k1
    dsimp only
    rw [decide_eq_false h, Bool.not_false, if_pos rfl, bind_some']; rfl
omit hb hl in
theorem up_bad {c : (List Int) × Int × Int} (h : c.2.2 ≠ 0) (g e0 : Int) : ref26_Up c g e0 = some (c, 0) := by
  unfold ref26_Up
  rw [take_bad h, bind_some', bind_some', decide_eq_false h, Bool.false_and, if_neg (by decide)]
  unfold ref26_Up_k1
  dsimp only
  rw [decide_eq_false h, Bool.not_false, if_pos rfl]
omit hb hl in
theorem rZag_eq {n : Nat} (h : n < 18446744073709551616) : ref07_Zag (n : Int) = some (zagN n) := by
  unfold ref07_Zag zagN
  have e1 : rmK (n : Int) 2 = some ((n % 2 : Nat) : Int) := by
    unfold rmK
    rw [if_neg (by decide), Int.tmod_eq_emod_of_nonneg (by omega)]
    congr 1
  have e2 : quK .u64 (n : Int) 2 = some ((n / 2 : Nat) : Int) := by
    unfold quK
    rw [if_neg (by decide), Int.tdiv_eq_ediv_of_nonneg (by omega)]
    congr 1
    rw [show (n : Int) / 2 = ((n / 2 : Nat) : Int) by omega]
    exact u64_nat (by omega)
  rw [e1, bind_some', e2, bind_some', bind_some', show IntKind.i64.wrap ((n / 2 : Nat) : Int) = ((n / 2 : Nat) : Int) from IntWalk.i64_in _ (by omega)]
  by_cases h2 : n % 2 = 1
  · rw [if_pos h2, decide_eq_true (by omega), if_pos rfl, ng_in (by omega), sb_in (by omega)]
  · rw [if_neg h2, decide_eq_false (by omega), if_neg (by decide)]
theorem rTurn_eq {β : Type} (i : Nat) (hi : i ≤ b.length) (f lo hi' : Int) (hf : -16777216 ≤ f ∧ f ≤ 16777216) (F : ((List Int) × Int × Int) × Int → Option β) :
    (ref26_Turned (b, (i : Int), 0) f lo hi').bind F = goR (runA b (turnP f lo hi') i) (fun v j => F ((b, (j : Int), 0), v)) (fun e => F ((b, ((i + (num (b.drop i)).2.1 : Nat) : Int), e), 0)) := by
  unfold ref26_Turned turnP
  have hlt := num_lt (l := b.drop i) (fun x hx => hb x (List.mem_of_mem_drop hx))
  have hz := zag_in hlt
  rw [rTake_eq hb hl i hi, bind_some', runA]
  dsimp only
  rw [rZag_eq hlt, bind_some', bind_some', bind_some', bind_some']
  generalize zagN (num (b.drop i)).1 = z at hz
  by_cases h : (num (b.drop i)).2.2 = 0
  · rw [if_pos h, decide_eq_true h, Bool.true_and]
    by_cases h2 : -4294967296 ≤ z ∧ z ≤ 4294967296 ∧ lo ≤ f + z ∧ f + z ≤ hi'
    · rw [if_pos h2, ad_in (by omega), decide_eq_false (show ¬ 4294967296 < z by omega), decide_eq_false (show ¬ z < -4294967296 by omega), decide_eq_false (show ¬ f + z < lo by omega), decide_eq_false (show ¬ hi' < f + z by omega)]
      show Option.bind (ref26_Turned_k1 _ _ _ _) _ = _
      unfold ref26_Turned_k1
      dsimp only
      rw [decide_eq_true h, Bool.not_true, if_neg (by decide), h, bind_some', ad_in (by omega)]; rfl
    · rw [if_neg h2]
      have : (decide (4294967296 < z) || decide (z < -4294967296) || decide (ad f z < lo) || decide (hi' < ad f z)) = true := by
        by_cases h3 : -4294967296 ≤ z ∧ z ≤ 4294967296
        · rw [ad_in (by omega)]
          simp only [Bool.or_eq_true, decide_eq_true_eq]; omega
        · simp only [Bool.or_eq_true, decide_eq_true_eq]; omega
      rw [this, if_pos rfl]
      unfold ref26_Turned_k1
      dsimp only
      rw [decide_eq_false (by decide), Bool.not_false, if_pos rfl, bind_some']; rfl
  · rw [if_neg h, decide_eq_false h, Bool.false_and, if_neg (by decide)]
    unfold ref26_Turned_k1
    dsimp only
    rw [decide_eq_false h, Bool.not_false, if_pos rfl, bind_some']; rfl
omit hb hl in
theorem turn_bad {c : (List Int) × Int × Int} (h : c.2.2 ≠ 0) (f lo hi' : Int) : ref26_Turned c f lo hi' = some (c, 0) := by
  unfold ref26_Turned
  rw [take_bad h, bind_some']
  show (ref07_Zag ((0 : Nat) : Int)).bind _ = _
  rw [rZag_eq (by omega), bind_some', bind_some', bind_some', bind_some', decide_eq_false h, Bool.false_and, if_neg (by decide)]
  unfold ref26_Turned_k1
  dsimp only
  rw [decide_eq_false h, Bool.not_false, if_pos rfl]
omit hb hl
theorem bad3 {E : Int} (h : E ≠ 0) (A : List ArcT) (r : ((List Int) × Int × Int) × Int) (c : List Int) (at_ : Int) (acc : List (List (List Int))) (g f i : Int) : loopO (fun s => ref26_Read_b3 A r s.1 s.2.1 s.2.2.1 s.2.2.2.1 s.2.2.2.2.1 s.2.2.2.2.2.1 s.2.2.2.2.2.2) (c, at_, E, acc, g, f, i) = badR E := by
  refine loopO_ret (X := badR E) ?_
  dsimp only
  unfold ref26_Read_b3
  rw [bind_some', decide_eq_false h, Bool.and_false, if_neg (by decide), Bool.not_false, if_pos rfl]; rfl
theorem bad4 {E : Int} (h : E ≠ 0) (A : List ArcT) (r r4 : ((List Int) × Int × Int) × Int) (c : List Int) (at_ : Int) (out : List (List (List Int))) (g i f : Int) (l : List (List Int)) (j : Int) (ho : out.length ≤ 1000000) :
    thenL (fun s => ref26_Read_b3 A r s.1 s.2.1 s.2.2.1 s.2.2.2.1 s.2.2.2.2.1 s.2.2.2.2.2.1 s.2.2.2.2.2.2) (loopO (fun s => ref26_Read_b4 out g i r4 s.1 s.2.1 s.2.2.1 s.2.2.2.1 s.2.2.2.2.1 s.2.2.2.2.2) (c, at_, E, f, l, j)) = badR E := by
  rw [loopO_then]
  dsimp only
  unfold ref26_Read_b4
  rw [bind_some', decide_eq_false h, Bool.and_false, if_neg (by decide), thenL_ret, app_le (by simp only [List.length_cons, List.length_nil]; omega), bind_some', thenL_inl, bad3 h]
theorem bad5 {E : Int} (h : E ≠ 0) (A : List ArcT) (r r4 r5 : ((List Int) × Int × Int) × Int) (c : List Int) (at_ : Int) (out : List (List (List Int))) (g i f : Int) (l : List (List Int)) (j : Int) (acc : List Int) (x : Int) (ho : out.length ≤ 1000000) (hl : l.length ≤ 1000000) :
    thenL (fun s => ref26_Read_b3 A r s.1 s.2.1 s.2.2.1 s.2.2.2.1 s.2.2.2.2.1 s.2.2.2.2.2.1 s.2.2.2.2.2.2) (thenL (fun s => ref26_Read_b4 out g i r4 s.1 s.2.1 s.2.2.1 s.2.2.2.1 s.2.2.2.2.1 s.2.2.2.2.2) (ref26_Read_l5 f l j r5 (c, at_, E, acc, x))) = badR E := by
  unfold ref26_Read_l5
  rw [loopO_then]
  dsimp only
  unfold ref26_Read_b5
  rw [bind_some', decide_eq_false h, Bool.and_false, if_neg (by decide), thenL_ret, app_le (by simp only [List.length_cons, List.length_nil]; omega), bind_some', thenL_inl, bad4 h _ _ _ _ _ _ _ _ _ _ _ ho]
theorem bad1 {E : Int} (h : E ≠ 0) (r : ((List Int) × Int × Int) × Int) (c : List Int) (at_ : Int) (A : List ArcT) (p : Pt) (pts i : Int) : loopO (fun s => ref26_Read_b1 r s.1 s.2.1 s.2.2.1 s.2.2.2.1 s.2.2.2.2.1 s.2.2.2.2.2.1 s.2.2.2.2.2.2) (c, at_, E, A, p, pts, i) = badR E := by
  refine loopO_ret (X := badR E) ?_
  dsimp only
  unfold ref26_Read_b1
  rw [bind_some', decide_eq_false h, Bool.and_false, if_neg (by decide), up_bad (c := (c, at_, E)) h, bind_some']
  unfold ref26_Read_l3
  rw [bad3 h]
theorem bad2 {E : Int} (h : E ≠ 0) (r r1 r2 r3 : ((List Int) × Int × Int) × Int) (c : List Int) (at_ : Int) (A : List ArcT) (pts i : Int) (p : Pt) (acc : List Pt) (j : Int) (hA : A.length ≤ 1000000) :
    thenL (fun s => ref26_Read_b1 r s.1 s.2.1 s.2.2.1 s.2.2.2.1 s.2.2.2.2.1 s.2.2.2.2.2.1 s.2.2.2.2.2.2) (ref26_Read_l2 A pts i r1 r2 r3 (c, at_, E, p, acc, j)) = badR E := by
  unfold ref26_Read_l2
  rw [loopO_then]
  dsimp only
  unfold ref26_Read_b2
  rw [bind_some', decide_eq_false h, Bool.and_false, if_neg (by decide), thenL_ret, app_le (by simp only [List.length_cons, List.length_nil]; omega), bind_some', thenL_inl, bad1 h]
include hb hl
theorem rd_l2 (r r1 r2 : ((List Int) × Int × Int) × Int) (c3 : (List Int) × Int × Int) (A : List ArcT) (i pts m : Nat) (hA : A.length ≤ 100000) (hi : i ≤ 100000) (hp : pts ≤ 100000) (hm : m ≤ pts) : ∀ (n j at_ : Nat) (p : Pt) (acc : List Pt), j + n = m → acc.length + n ≤ 200000 → at_ ≤ b.length → mayP p = true →
    thenL (fun s => ref26_Read_b1 r s.1 s.2.1 s.2.2.1 s.2.2.2.1 s.2.2.2.2.1 s.2.2.2.2.2.1 s.2.2.2.2.2.2) (ref26_Read_l2 A (pts : Int) (i : Int) r1 r2 (c3, (m : Int)) (b, (at_ : Int), 0, p, acc, (j : Int))) = goR (runA b (ptsP n p acc) at_) (fun q j' => loopO (fun s => ref26_Read_b1 r s.1 s.2.1 s.2.2.1 s.2.2.2.1 s.2.2.2.2.1 s.2.2.2.2.2.1 s.2.2.2.2.2.2) (b, (j' : Int), 0, A ++ [(q.2, r1.2, r2.2)], q.1, ((pts - m : Nat) : Int), ((i + 1 : Nat) : Int))) badR := by
  intro n
  induction n with
  | zero =>
    intro j at_ p acc hj ha hat hp'
    unfold ref26_Read_l2
    rw [loopO_then]
    dsimp only
    unfold ref26_Read_b2
    rw [bind_some', decide_eq_false (show ¬ (j : Int) < (m : Int) by omega), Bool.false_and, if_neg (by decide), thenL_ret, app_le (by simp only [List.length_cons, List.length_nil]; omega), bind_some', thenL_inl, ad_one (by omega), sb_in (by omega), show (pts : Int) - (m : Int) = ((pts - m : Nat) : Int) by omega]; rfl
  | succ n ih =>
    intro j at_ p acc hj ha hat hp'
    have hp2 := (may_iff p).1 hp'
    unfold ref26_Read_l2
    rw [loopO_then]
    dsimp only
    rw [show ref26_Read_b2 A (pts : Int) (i : Int) r1 r2 (c3, (m : Int)) b (at_ : Int) 0 p acc (j : Int) = (ref26_Turned (b, (at_ : Int), 0) p.1 (-16777216) 16777216).bind (fun r2960 => (ref26_Turned r2960.1 p.2 (-16777216) 16777216).bind fun r2976 => (app acc [(r2960.2, r2976.2)]).bind fun x2992 => some (Sum.inl (r2976.1.1, r2976.1.2.1, r2976.1.2.2, (r2960.2, r2976.2), x2992, ad (j : Int) 1))) from by
      unfold ref26_Read_b2
      rw [bind_some', decide_eq_true (show (j : Int) < (m : Int) by omega), decide_eq_true rfl, Bool.and_self, if_pos rfl]]
    rw [thenL_bind, thenL_bind, ptsP, goR_bnd, rTurn_eq hb hl at_ hat p.1 _ _ hp2.1]
    refine goR_cases hb hat (fun x j1 hj1 hx => ?_) (fun e he => ?_)
    · dsimp only
      rw [thenL_bind, thenL_bind, goR_bnd, rTurn_eq hb hl j1 hj1 p.2 _ _ hp2.2]
      refine goR_cases hb hj1 (fun y j2 hj2 hy => ?_) (fun e he => ?_)
      · dsimp only
        rw [app_le (by simp only [List.length_cons, List.length_nil]; omega), bind_some', thenL_inl, ad_one (by omega)]
        exact ih (j + 1) j2 (x, y) (acc ++ [(x, y)]) (by omega) (by rw [List.length_append, List.length_singleton]; omega) hj2 ((may_iff _).2 ⟨turn_in hx, turn_in hy⟩)
      · dsimp only
        rw [app_le (by simp only [List.length_cons, List.length_nil]; omega), bind_some', thenL_inl]
        exact bad2 (er_turn _ _ _ _ _ _ he) _ _ _ _ _ _ _ _ _ _ _ _ (by omega)
    · dsimp only
      have hE := er_turn _ _ _ _ _ _ he
      rw [turn_bad hE, bind_some', app_le (by simp only [List.length_cons, List.length_nil]; omega), bind_some', thenL_inl]
      exact bad2 hE _ _ _ _ _ _ _ _ _ _ _ _ (by omega)
theorem rd_l5 (A : List ArcT) (r r4 : ((List Int) × Int × Int) × Int) (c5 : (List Int) × Int × Int) (out : List (List (List Int))) (g i : Int) (refs m j : Nat) (l : List (List Int)) (ho : out.length ≤ 100000) (hll : l.length ≤ 100000) (hr : refs ≤ 100000) (hj : j ≤ 100000) (hm : m ≤ refs) : ∀ (n x at_ : Nat) (acc : List Int), x + n = m → acc.length + n ≤ 200000 → at_ ≤ b.length →
    thenL (fun s => ref26_Read_b3 A r s.1 s.2.1 s.2.2.1 s.2.2.2.1 s.2.2.2.2.1 s.2.2.2.2.2.1 s.2.2.2.2.2.2) (thenL (fun s => ref26_Read_b4 out g i r4 s.1 s.2.1 s.2.2.1 s.2.2.2.1 s.2.2.2.2.1 s.2.2.2.2.2) (ref26_Read_l5 (refs : Int) l (j : Int) (c5, (m : Int)) (b, (at_ : Int), 0, acc, (x : Int)))) = goR (runA b (refsPr n acc) at_) (fun q j' => thenL (fun s => ref26_Read_b3 A r s.1 s.2.1 s.2.2.1 s.2.2.2.1 s.2.2.2.2.1 s.2.2.2.2.2.1 s.2.2.2.2.2.2) (loopO (fun s => ref26_Read_b4 out g i r4 s.1 s.2.1 s.2.2.1 s.2.2.2.1 s.2.2.2.2.1 s.2.2.2.2.2) (b, (j' : Int), 0, ((refs - m : Nat) : Int), l ++ [q], ((j + 1 : Nat) : Int)))) badR := by
  intro n
  induction n with
  | zero =>
    intro x at_ acc hx ha hat
    unfold ref26_Read_l5
    rw [loopO_then]
    dsimp only
    unfold ref26_Read_b5
    rw [bind_some', decide_eq_false (show ¬ (x : Int) < (m : Int) by omega), Bool.false_and, if_neg (by decide), thenL_ret, app_le (by simp only [List.length_cons, List.length_nil]; omega), bind_some', thenL_inl, ad_one (by omega), sb_in (by omega), show (refs : Int) - (m : Int) = ((refs - m : Nat) : Int) by omega]; rfl
  | succ n ih =>
    intro x at_ acc hx ha hat
    unfold ref26_Read_l5
    rw [loopO_then]
    dsimp only
    rw [show ref26_Read_b5 (refs : Int) l (j : Int) (c5, (m : Int)) b (at_ : Int) 0 acc (x : Int) = (ref26_Turned (b, (at_ : Int), 0) 0 (-65536) 65536).bind (fun r4360 => (app acc [r4360.2]).bind fun x4370 => some (Sum.inl (r4360.1.1, r4360.1.2.1, r4360.1.2.2, x4370, ad (x : Int) 1))) from by
      unfold ref26_Read_b5
      rw [bind_some', decide_eq_true (show (x : Int) < (m : Int) by omega), decide_eq_true rfl, Bool.and_self, if_pos rfl]]
    rw [thenL_bind, thenL_bind, thenL_bind, refsPr, goR_bnd, rTurn_eq hb hl at_ hat 0 _ _ (by omega)]
    refine goR_cases hb hat (fun y j1 hj1 hy => ?_) (fun e he => ?_)
    · dsimp only
      rw [app_le (by simp only [List.length_cons, List.length_nil]; omega), bind_some', thenL_inl, ad_one (by omega)]
      exact ih (x + 1) j1 (acc ++ [y]) (by omega) (by rw [List.length_append, List.length_singleton]; omega) hj1
    · dsimp only
      rw [app_le (by simp only [List.length_cons, List.length_nil]; omega), bind_some', thenL_inl]
      exact bad5 (er_turn _ _ _ _ _ _ he) _ _ _ _ _ _ _ _ _ _ _ _ _ _ (by omega) (by omega)
theorem rd_l4 (A : List ArcT) (r : ((List Int) × Int × Int) × Int) (c4 : (List Int) × Int × Int) (out : List (List (List Int))) (rings m i : Nat) (ho : out.length ≤ 100000) (hg : rings ≤ 1000) (hm : m ≤ rings) (hi : i ≤ 100000) : ∀ (n j at_ refs : Nat) (acc : List (List Int)), j + n = m → acc.length + n ≤ 100000 → refs ≤ 65536 → at_ ≤ b.length →
    thenL (fun s => ref26_Read_b3 A r s.1 s.2.1 s.2.2.1 s.2.2.2.1 s.2.2.2.2.1 s.2.2.2.2.2.1 s.2.2.2.2.2.2) (ref26_Read_l4 out (rings : Int) (i : Int) (c4, (m : Int)) (b, (at_ : Int), 0, (refs : Int), acc, (j : Int))) = goR (runA b (ringsPr n refs acc) at_) (fun q j' => loopO (fun s => ref26_Read_b3 A r s.1 s.2.1 s.2.2.1 s.2.2.2.1 s.2.2.2.2.1 s.2.2.2.2.2.1 s.2.2.2.2.2.2) (b, (j' : Int), 0, out ++ [q.2], ((rings - m : Nat) : Int), (q.1 : Int), ((i + 1 : Nat) : Int))) badR := by
  intro n
  induction n with
  | zero =>
    intro j at_ refs acc hj ha hr hat
    unfold ref26_Read_l4
    rw [loopO_then]
    dsimp only
    unfold ref26_Read_b4
    rw [bind_some', decide_eq_false (show ¬ (j : Int) < (m : Int) by omega), Bool.false_and, if_neg (by decide), thenL_ret, app_le (by simp only [List.length_cons, List.length_nil]; omega), bind_some', thenL_inl, ad_one (by omega), sb_in (by omega), show (rings : Int) - (m : Int) = ((rings - m : Nat) : Int) by omega]; rfl
  | succ n ih =>
    intro j at_ refs acc hj ha hr hat
    unfold ref26_Read_l4
    rw [loopO_then]
    dsimp only
    conv => lhs; rw [show ref26_Read_b4 out (rings : Int) (i : Int) (c4, (m : Int)) b (at_ : Int) 0 (refs : Int) acc (j : Int) = (ref26_Up (b, (at_ : Int), 0) (refs : Int) 6).bind (fun r4268 => ref26_Read_l5 (refs : Int) acc (j : Int) r4268 (r4268.1.1, r4268.1.2.1, r4268.1.2.2, ([] : List Int), 0)) from by
      unfold ref26_Read_b4
      rw [bind_some', decide_eq_true (show (j : Int) < (m : Int) by omega), decide_eq_true rfl, Bool.and_self, if_pos rfl]]
    rw [thenL_bind, thenL_bind, ringsPr, goR_bnd, rUp_eq hb hl at_ hat refs (by omega) 6 (by decide)]
    refine goR_cases hb hat (fun k j1 hj1 hk => ?_) (fun e he => ?_)
    · have hk' := up_le hk
      dsimp only
      rw [goR_bnd]
      have := rd_l5 hb hl A r (c4, (m : Int)) (b, (j1 : Int), 0) out (rings : Int) (i : Int) refs k j acc (by omega) (by omega) (by omega) (by omega) hk' k 0 j1 [] (by omega) (by simp only [List.length_nil]; omega) hj1
      refine this.trans ?_
      refine goR_cases hb hj1 (fun q j2 hj2 hq => ?_) (fun _ _ => rfl)
      exact ih (j + 1) j2 (refs - k) _ (by omega) (by rw [List.length_append, List.length_singleton]; omega) (by omega) hj2
    · exact bad5 (er_up _ (by decide) _ _ _ he) _ _ _ _ _ _ _ _ _ _ _ _ _ _ (by omega) (by omega)
theorem rd_l3 (A : List ArcT) (c3 : (List Int) × Int × Int) (m : Nat) (hm : m ≤ 32) : ∀ (n i at_ rings refs : Nat) (acc : List (List (List Int))), i + n = m → acc.length + n ≤ 100000 → rings ≤ 64 → refs ≤ 65536 → at_ ≤ b.length →
    ref26_Read_l3 A (c3, (m : Int)) (b, (at_ : Int), 0, acc, (rings : Int), (refs : Int), (i : Int)) = goR (runA b (facesPr n rings refs acc) at_) (fun q j' => some ((A, q.2.2), (j' : Int), 0)) badR := by
  intro n
  induction n with
  | zero =>
    intro i at_ rings refs acc hi ha hg hr hat
    unfold ref26_Read_l3
    rw [loopO_then]
    dsimp only
    unfold ref26_Read_b3
    rw [bind_some', decide_eq_false (show ¬ (i : Int) < (m : Int) by omega), Bool.false_and, if_neg (by decide), thenL_ret, decide_eq_true rfl, Bool.not_true, if_neg (by decide)]; rfl
  | succ n ih =>
    intro i at_ rings refs acc hi ha hg hr hat
    unfold ref26_Read_l3
    rw [loopO_then]
    dsimp only
    conv => lhs; rw [show ref26_Read_b3 A (c3, (m : Int)) b (at_ : Int) 0 acc (rings : Int) (refs : Int) (i : Int) = (ref26_Up (b, (at_ : Int), 0) (rings : Int) 6).bind (fun r3960 => ref26_Read_l4 acc (rings : Int) (i : Int) r3960 (r3960.1.1, r3960.1.2.1, r3960.1.2.2, (refs : Int), ([] : List (List Int)), 0)) from by
      unfold ref26_Read_b3
      rw [bind_some', decide_eq_true (show (i : Int) < (m : Int) by omega), decide_eq_true rfl, Bool.and_self, if_pos rfl]]
    rw [thenL_bind, facesPr, goR_bnd, rUp_eq hb hl at_ hat rings (by omega) 6 (by decide)]
    refine goR_cases hb hat (fun k j1 hj1 hk => ?_) (fun e he => ?_)
    · have hk' := up_le hk
      dsimp only
      rw [goR_bnd]
      have := rd_l4 hb hl A (c3, (m : Int)) (b, (j1 : Int), 0) acc rings k i (by omega) (by omega) hk' (by omega) k 0 j1 refs [] (by omega) (by simp only [List.length_nil]; omega) hr hj1
      refine this.trans ?_
      refine goR_cases hb hj1 (fun q j2 hj2 hq => ?_) (fun _ _ => rfl)
      have hy := rings_refs hq
      exact ih (i + 1) j2 (rings - k) q.1 _ (by omega) (by rw [List.length_append, List.length_singleton]; omega) (by omega) (by omega) hj2
    · exact bad4 (er_up _ (by decide) _ _ _ he) _ _ _ _ _ _ _ _ _ _ _ (by omega)
noncomputable def facesR (b : List Int) (A : List ArcT) (j : Nat) : Option NetR :=
  (ref26_Up (b, (j : Int), 0) 32 6).bind fun r3017 => ref26_Read_l3 A r3017 (r3017.1.1, r3017.1.2.1, r3017.1.2.2, ([] : List (List (List Int))), 64, 65536, 0)
theorem rd_l1 (c1 : (List Int) × Int × Int) (m : Nat) (hm : m ≤ 65536) : ∀ (n i at_ : Nat) (p : Pt) (pts : Nat) (acc : List ArcT), i + n = m → acc.length + n ≤ 70000 → pts ≤ 65536 → at_ ≤ b.length → mayP p = true →
    ref26_Read_l1 (c1, (m : Int)) (b, (at_ : Int), 0, acc, p, (pts : Int), (i : Int)) = goR (runA b (arcsP n p pts acc) at_) (fun q j' => facesR b q.2.2 j') badR := by
  intro n
  induction n with
  | zero =>
    intro i at_ p pts acc hi ha hg hat hp
    unfold ref26_Read_l1
    rw [loopO_then]
    dsimp only
    unfold ref26_Read_b1
    rw [bind_some', decide_eq_false (show ¬ (i : Int) < (m : Int) by omega), Bool.false_and, if_neg (by decide), thenL_ret]; rfl
  | succ n ih =>
    intro i at_ p pts acc hi ha hg hat hp
    unfold ref26_Read_l1
    rw [loopO_then]
    dsimp only
    conv => lhs; rw [show ref26_Read_b1 (c1, (m : Int)) b (at_ : Int) 0 acc p (pts : Int) (i : Int) = (ref26_Up (b, (at_ : Int), 0) ((32 : Nat) : Int) 5).bind (fun r2781 => (ref26_Up r2781.1 ((32 : Nat) : Int) 5).bind fun r2797 => (ref26_Up r2797.1 (pts : Int) 6).bind fun r2808 => ref26_Read_l2 acc (pts : Int) (i : Int) r2781 r2797 r2808 (r2808.1.1, r2808.1.2.1, r2808.1.2.2, p, ([] : List (Int × Int)), 0)) from by
      unfold ref26_Read_b1
      rw [bind_some', decide_eq_true (show (i : Int) < (m : Int) by omega), decide_eq_true rfl, Bool.and_self, if_pos rfl]; rfl]
    rw [thenL_bind, arcsP, goR_bnd, rUp_eq hb hl at_ hat 32 (by omega) 5 (by decide)]
    refine goR_cases hb hat (fun lt j1 hj1 _ => ?_) (fun e he => ?_)
    · dsimp only
      rw [thenL_bind, goR_bnd, rUp_eq hb hl j1 hj1 32 (by omega) 5 (by decide)]
      refine goR_cases hb hj1 (fun rt j2 hj2 _ => ?_) (fun e he => ?_)
      · dsimp only
        rw [thenL_bind, goR_bnd, rUp_eq hb hl j2 hj2 pts (by omega) 6 (by decide)]
        refine goR_cases hb hj2 (fun k j3 hj3 hk => ?_) (fun e he => ?_)
        · have hk' := up_le hk
          dsimp only
          rw [goR_bnd]
          have := rd_l2 hb hl (c1, (m : Int)) ((b, (j1 : Int), 0), (lt : Int)) ((b, (j2 : Int), 0), (rt : Int)) (b, (j3 : Int), 0) acc i pts k (by omega) (by omega) (by omega) hk' k 0 j3 p [] (by omega) (by simp only [List.length_nil]; omega) hj3 hp
          refine this.trans ?_
          refine goR_cases hb hj3 (fun q j4 hj4 hq => ?_) (fun _ _ => rfl)
          exact ih (i + 1) j4 q.1 (pts - k) _ (by omega) (by rw [List.length_append, List.length_singleton]; omega) (by omega) hj4 (pts_may hp hq)
        · exact bad2 (er_up _ (by decide) _ _ _ he) _ _ _ _ _ _ _ _ _ _ _ _ (by omega)
      · have hE := er_up _ (by decide) _ _ _ he
        dsimp only
        rw [up_bad hE, bind_some']
        exact bad2 hE _ _ _ _ _ _ _ _ _ _ _ _ (by omega)
    · have hE := er_up _ (by decide) _ _ _ he
      dsimp only
      rw [up_bad hE, bind_some', up_bad hE, bind_some']
      exact bad2 hE _ _ _ _ _ _ _ _ _ _ _ _ (by omega)
theorem rRead26_eq : ref26_Read b = goR (runA b netPr 0) (fun n j => some (n, (j : Int), 0)) badR := by
  unfold ref26_Read netPr
  rw [show (65536 : Int) = ((65536 : Nat) : Int) from rfl, show (b, (0 : Int), (0 : Int)) = (b, ((0 : Nat) : Int), (0 : Int)) from rfl, rUp_eq hb hl 0 (by omega) 65536 (by omega) 6 (by decide), goR_bnd]
  refine goR_cases hb (by omega) (fun c j hj hc => ?_) (fun e he => ?_)
  · have hc' := up_le hc
    dsimp only
    have h1 := rd_l1 hb hl (b, (j : Int), 0) c hc' c 0 j (0, 0) 65536 [] (by omega) (by simp only [List.length_nil]; omega) (by omega) hj (by decide)
    refine (show ref26_Read_l1 _ _ = _ from h1).trans ?_
    rw [goR_bnd]
    refine goR_cases hb hj (fun s j2 hj2 hs => ?_) (fun _ _ => rfl)
    unfold facesR
    rw [show (32 : Int) = ((32 : Nat) : Int) from rfl, rUp_eq hb hl j2 hj2 32 (by omega) 6 (by decide), goR_bnd]
    refine goR_cases hb hj2 (fun f j3 hj3 hf => ?_) (fun e he => ?_)
    · have hf' := up_le hf
      dsimp only
      have h3 := rd_l3 hb hl s.2.2 (b, (j3 : Int), 0) f hf' f 0 j3 64 65536 [] (by omega) (by simp only [List.length_nil]; omega) (by omega) (by omega) hj3
      refine (show ref26_Read_l3 _ _ _ = _ from h3).trans ?_
      rw [goR_bnd]
      exact goR_cases hb hj3 (fun t j4 _ _ => rfl) (fun _ _ => rfl)
    · dsimp only
      unfold ref26_Read_l3
      exact bad3 (er_up _ (by decide) _ _ _ he) _ _ _ _ _ _ _ _
  · dsimp only
    unfold ref26_Read_l1
    exact bad1 (er_up _ (by decide) _ _ _ he) _ _ _ _ _ _ _
theorem reads_agree : block_Read b = ref26_Read b := by
  rw [Read_eq hb hl, rRead26_eq hb hl]; rfl
end
end Go.Proofs.Ytaobbaohelpdgaa.Pl
