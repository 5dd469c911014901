import Derived.Test.YtaobbaohelpdgaaP26f
namespace Go.Proofs.Ytaobbaohelpdgaa.Pl
set_option maxRecDepth 4000
section
variable {α β γ : Type}
def goR (r : (α × Nat) ⊕ Int) (f : α → Nat → Option β) (g : Int → Option β) : Option β := match r with
  | .inl (a, j) => f a j
  | .inr e => g e
theorem goR_bnd {b : List Int} (p : Prs α) (k : α → Prs γ) (i : Nat) (f : γ → Nat → Option β) (g : Int → Option β) : goR (runA b (p.bnd k) i) f g = goR (runA b p i) (fun a j => goR (runA b (k a) j) f g) g := by
  rw [runA_bnd]
  cases runA b p i with
  | inl x => rfl
  | inr e => rfl
theorem runA_le {b : List Int} (hb : ∀ x ∈ b, U8 x) : ∀ (p : Prs α) (i : Nat) (a : α) (j : Nat), i ≤ b.length → runA b p i = .inl (a, j) → j ≤ b.length
  | .ret c, i, a, j, hi, h => by injection h with h; injection h with h1 h2; omega
  | .err e, i, a, j, hi, h => by cases h
  | .nx k, i, a, j, hi, h => by
    rw [runA] at h
    split at h
    · have := num_len (l := b.drop i) (fun x hx => hb x (List.mem_of_mem_drop hx))
      rw [List.length_drop] at this
      exact runA_le hb (k _) _ a j (by omega) h
    · cases h
theorem goR_cases {b : List Int} (hb : ∀ x ∈ b, U8 x) {p : Prs α} {i : Nat} (hi : i ≤ b.length) {f f2 : α → Nat → Option β} {g g2 : Int → Option β} (h1 : ∀ a j, j ≤ b.length → runA b p i = .inl (a, j) → f a j = f2 a j) (h2 : ∀ e, runA b p i = .inr e → g e = g2 e) : goR (runA b p i) f g = goR (runA b p i) f2 g2 := by
  cases h : runA b p i with
  | inl x => exact h1 x.1 x.2 (runA_le hb p i x.1 x.2 hi h) h
  | inr e => exact h2 e h
end
theorem loopO_ret {S R : Type} {body : S → Option (S ⊕ R)} {s : S} {X : Option R} (h : body s = X.map Sum.inr) : loopO body s = X := by
  rw [loopO_eq, h]
  cases X <;> rfl
def Er {α : Type} (p : Prs α) : Prop := ∀ (b : List Int) (i : Nat) (e : Int), runA b p i = .inr e → e ≠ 0
theorem Er.ret {α : Type} (a : α) : Er (Prs.ret a) := fun b i e h => by cases h
theorem Er.bnd {α β : Type} {p : Prs α} {f : α → Prs β} (hp : Er p) (hf : ∀ a, Er (f a)) : Er (p.bnd f) := fun b i e h => by
  rw [runA_bnd] at h
  cases h1 : runA b p i with
  | inl x => rw [h1] at h; exact hf x.1 b x.2 e h
  | inr e' => rw [h1] at h; injection h with h; rw [← h]; exact hp b i e' h1
theorem er_up (g : Nat) {e0 : Int} (h0 : e0 ≠ 0) : Er (upP g e0) := fun b i e h => by
  unfold upP at h
  rw [runA] at h
  split at h
  · split at h
    · cases h
    · injection h with h; rw [← h]; exact h0
  · rename_i h1; injection h with h; rw [← h]; exact h1
theorem er_turn (f lo hi : Int) : Er (turnP f lo hi) := fun b i e h => by
  unfold turnP at h
  rw [runA] at h
  split at h
  · split at h
    · cases h
    · injection h with h; rw [← h]; decide
  · rename_i h1; injection h with h; rw [← h]; exact h1
theorem er_pts : ∀ (k : Nat) (p : Pt) (acc : List Pt), Er (ptsP k p acc)
  | 0, _, _ => Er.ret _
  | k + 1, _, _ => (er_turn _ _ _).bnd fun _ => (er_turn _ _ _).bnd fun _ => er_pts k _ _
theorem er_refs : ∀ (k : Nat) (acc : List Int), Er (refsPr k acc)
  | 0, _ => Er.ret _
  | k + 1, _ => (er_turn _ _ _).bnd fun _ => er_refs k _
theorem er_arcs : ∀ (k : Nat) (p : Pt) (pts : Nat) (acc : List ArcT), Er (arcsP k p pts acc)
  | 0, _, _, _ => Er.ret _
  | k + 1, _, _, _ => (er_up _ (by decide)).bnd fun _ => (er_up _ (by decide)).bnd fun _ => (er_up _ (by decide)).bnd fun _ => (er_pts _ _ _).bnd fun _ => er_arcs k _ _ _
theorem er_rings : ∀ (k refs : Nat) (acc : List (List Int)), Er (ringsPr k refs acc)
  | 0, _, _ => Er.ret _
  | k + 1, _, _ => (er_up _ (by decide)).bnd fun _ => (er_refs _ _).bnd fun _ => er_rings k _ _
theorem er_faces : ∀ (k rings refs : Nat) (acc : List (List (List Int))), Er (facesPr k rings refs acc)
  | 0, _, _, _ => Er.ret _
  | k + 1, _, _, _ => (er_up _ (by decide)).bnd fun _ => (er_rings _ _ _).bnd fun _ => er_faces k _ _ _
theorem er_net : Er netPr := (er_up _ (by decide)).bnd fun _ => (er_arcs _ _ _ _).bnd fun _ => (er_up _ (by decide)).bnd fun _ => (er_faces _ _ _ _).bnd fun _ => Er.ret _
theorem up_le {b : List Int} {g : Nat} {e : Int} {i k j : Nat} (h : runA b (upP g e) i = .inl (k, j)) : k ≤ g := by
  unfold upP at h
  rw [runA] at h
  split at h
  · split at h
    · rename_i h2; injection h with h; injection h with h3 h4; omega
    · cases h
  · cases h
theorem turn_in {b : List Int} {f lo hi v : Int} {i j : Nat} (h : runA b (turnP f lo hi) i = .inl (v, j)) : lo ≤ v ∧ v ≤ hi := by
  unfold turnP at h
  rw [runA] at h
  split at h
  · split at h
    · rename_i h2; injection h with h; injection h with h3 h4; omega
    · cases h
  · cases h
theorem rd_len {b : List Int} (hb : ∀ x ∈ b, U8 x) (i : Nat) : (num (b.drop i)).2.1 ≤ b.length - i := by
  have := num_len (l := b.drop i) (fun x hx => hb x (List.mem_of_mem_drop hx))
  rwa [List.length_drop] at this
theorem numG_lt : ∀ (l : List Int) (i n : Nat), (∀ x ∈ l, U8 x) → i ≤ 10 → n < 128 ^ i → (numG i n l).1 < 18446744073709551616
  | [], i, n, _, _, _ => by rw [numG]; split <;> decide
  | x :: l, i, n, hb, hi, hn => by
    obtain ⟨m, hm, rfl⟩ := u8_nat (hb x (by simp))
    rw [numG]
    split
    · decide
    · split
      · refine numG_lt l (i + 1) _ (fun y hy => hb y (by simp [hy])) (by omega) ?_
        have : ((m : Int).toNat - 128) * 128 ^ i ≤ 127 * 128 ^ i := Nat.mul_le_mul_right _ (by omega)
        rw [Nat.pow_succ]; omega
      · split
        · decide
        · split
          · decide
          · rename_i h10 h1 h9 h0
            show n + (m : Int).toNat * 128 ^ i < _
            by_cases h : i = 9
            · subst h
              have e : (128 : Nat) ^ 9 = 9223372036854775808 := by decide
              rw [e] at hn ⊢
              have : m ≤ 1 := by omega
              rw [Int.toNat_natCast]
              have : m * 9223372036854775808 ≤ 1 * 9223372036854775808 := Nat.mul_le_mul_right _ this
              omega
            · have h8 := Nat.pow_le_pow_right (show 0 < 128 by omega) (show i ≤ 8 by omega)
              have : (m : Int).toNat * 128 ^ i ≤ 127 * 128 ^ i := Nat.mul_le_mul_right _ (by omega)
              omega
theorem num_lt {l : List Int} (hb : ∀ x ∈ l, U8 x) : (num l).1 < 18446744073709551616 := numG_lt l 0 0 hb (by omega) (by decide)
section
variable {b : List Int} (hb : ∀ x ∈ b, U8 x) (hl : b.length ≤ 1000000)
include hb hl
theorem number_eq (i : Nat) (q : Pt) (hi : i ≤ b.length) : block_cursor_number ((b, (i : Int)), q) = some (if (num (b.drop i)).2.2 = 0 then .inl (((num (b.drop i)).1 : Int), ((b, ((i + (num (b.drop i)).2.1 : Nat) : Int)), q)) else .inr (num (b.drop i)).2.2) := by
  unfold block_cursor_number
  dsimp only
  have hd := rd_len hb i
  rw [cut_from hi, bind_some', vRead_eq (fun x hx => hb x (List.mem_of_mem_drop hx)), bind_some']
  unfold numI
  dsimp only
  by_cases h : (num (b.drop i)).2.2 = 0
  · rw [if_pos h, decide_eq_true h, Bool.not_true, if_neg (by decide), ad_in (by omega)]
    rw [show (i : Int) + ((num (b.drop i)).2.1 : Int) = ((i + (num (b.drop i)).2.1 : Nat) : Int) by omega]
  · rw [if_neg h, decide_eq_false h, Bool.not_false, if_pos rfl]
theorem count_eq {β : Type} (i : Nat) (q : Pt) (left : Nat) (hi : i ≤ b.length) (hlf : left ≤ 65536) (F : (Int × (((List Int) × Int) × (Int × Int)) × Int) → Option β) (G : Int → Option β) :
    rngO (block_cursor_count ((b, (i : Int)), q) (left : Int)) F G = goR (runA b (upP left 6) i) (fun k j => F ((k : Int), ((b, (j : Int)), q), ((left - k : Nat) : Int))) G := by
  unfold block_cursor_count upP
  rw [number_eq hb hl i q hi, runA]
  have hlt := num_lt (l := b.drop i) (fun x hx => hb x (List.mem_of_mem_drop hx))
  by_cases h : (num (b.drop i)).2.2 = 0
  · rw [if_pos h, if_pos h]
    unfold rngO
    simp only [bind_some', Sum.elim_inl]
    rw [u64_nat (by omega)]
    by_cases h2 : (num (b.drop i)).1 ≤ left
    · rw [if_pos h2, decide_eq_false (by omega), if_neg (by decide)]
      rw [show IntKind.i64.wrap ((num (b.drop i)).1 : Int) = ((num (b.drop i)).1 : Int) from IntWalk.i64_in _ (by omega), sb_in (by omega)]
      show F _ = F _
      rw [show (left : Int) - ((num (b.drop i)).1 : Int) = ((left - (num (b.drop i)).1 : Nat) : Int) by omega]
    · rw [if_neg h2, decide_eq_true (by omega), if_pos rfl]; rfl
  · rw [if_neg h, if_neg h]; rfl
theorem side_eq {β : Type} (i : Nat) (q : Pt) (hi : i ≤ b.length) (F : (Int × (((List Int) × Int) × (Int × Int))) → Int → Option β) (G : Int → Option β) :
    rngO (block_cursor_number ((b, (i : Int)), q)) (fun r => (block_whole r.1).bind fun w => rngO (block_cursor_within_side ((b, r.2.1.2), r.2.2) w) (fun v => F r v) G) G = goR (runA b (upP 32 5) i) (fun k j => F ((k : Int), ((b, (j : Int)), q)) (k : Int)) G := by
  unfold upP
  rw [number_eq hb hl i q hi, runA]
  have hlt := num_lt (l := b.drop i) (fun x hx => hb x (List.mem_of_mem_drop hx))
  by_cases h : (num (b.drop i)).2.2 = 0
  · rw [if_pos h, if_pos h]
    unfold rngO block_whole block_cursor_within_side block_side
    simp only [bind_some', Sum.elim_inl]
    rw [show mn ((num (b.drop i)).1 : Int) 4611686018427387904 = ((min (num (b.drop i)).1 4611686018427387904 : Nat) : Int) by unfold mn; omega, show IntKind.i64.wrap ((min (num (b.drop i)).1 4611686018427387904 : Nat) : Int) = ((min (num (b.drop i)).1 4611686018427387904 : Nat) : Int) from IntWalk.i64_in _ (by omega)]
    by_cases h2 : (num (b.drop i)).1 ≤ 32
    · rw [if_pos h2, show min (num (b.drop i)).1 4611686018427387904 = (num (b.drop i)).1 by omega, decide_eq_true (by omega), decide_eq_true (by omega)]; rfl
    · rw [if_neg h2, decide_eq_true (by omega), decide_eq_false (by omega)]; rfl
  · rw [if_neg h, if_neg h]; rfl
omit hb hl
theorem xi_zero (x : Int) (h : 0 ≤ x ∧ x < 9223372036854775808) : xoK .i64 x 0 = x := by
  unfold xoK
  have e : (BitVec.ofInt 64 x ^^^ BitVec.ofInt 64 0) = BitVec.ofInt 64 x := by simp
  have e2 : (BitVec.ofInt IntKind.i64.bits x ^^^ BitVec.ofInt IntKind.i64.bits 0).toNat = x.toNat := by
    show (BitVec.ofInt 64 x ^^^ BitVec.ofInt 64 0).toNat = _
    rw [e, BitVec.toNat_ofInt]; omega
  rw [e2]
  exact (IntWalk.i64_in _ (by omega)).trans (by omega)
theorem i64_w (n : Int) (h : 9223372036854775808 ≤ n ∧ n < 18446744073709551616) : IntKind.i64.wrap n = n - 18446744073709551616 := by
  rw [IntKind.wrap_i64]; omega
theorem xi_ones (x : Int) (h : 0 ≤ x ∧ x < 9223372036854775808) : xoK .i64 x (-1) = -x - 1 := by
  unfold xoK
  have e : BitVec.ofInt 64 (-1) = BitVec.allOnes 64 := by decide
  have e2 : (BitVec.ofInt IntKind.i64.bits x ^^^ BitVec.ofInt IntKind.i64.bits (-1)).toNat = 18446744073709551615 - x.toNat := by
    show (BitVec.ofInt 64 x ^^^ BitVec.ofInt 64 (-1)).toNat = _
    rw [e, BitVec.xor_allOnes, BitVec.toNat_not, BitVec.toNat_ofInt]; omega
  rw [e2, i64_w _ (by omega)]; omega
theorem an_one (n : Nat) (h : n < 18446744073709551616) : anK .u64 (n : Int) 1 = ((n % 2 : Nat) : Int) := by
  unfold anK
  have e : (BitVec.ofInt IntKind.u64.bits (n : Int) &&& BitVec.ofInt IntKind.u64.bits 1).toNat = n % 2 := by
    show (BitVec.ofInt 64 (n : Int) &&& BitVec.ofInt 64 1).toNat = _
    rw [BitVec.toNat_and, BitVec.ofInt_natCast, BitVec.toNat_ofNat, Nat.mod_eq_of_lt (by omega)]
    exact Nat.and_one_is_mod n
  rw [e]
  exact u64_nat (by omega)
theorem vZag_eq {n : Nat} (h : n < 18446744073709551616) : varint_Zag (n : Int) = some (zagN n) := by
  unfold varint_Zag
  have e1 : srK .u64 (n : Int) 1 = some ((n / 2 : Nat) : Int) := by
    unfold srK
    rw [if_pos (by decide)]
    congr 1
  rw [e1, bind_some', bind_some', an_one n h]
  congr 1
  rw [show IntKind.i64.wrap ((n / 2 : Nat) : Int) = ((n / 2 : Nat) : Int) from IntWalk.i64_in _ (by omega), show IntKind.i64.wrap ((n % 2 : Nat) : Int) = ((n % 2 : Nat) : Int) from IntWalk.i64_in _ (by omega), ng_in (by omega)]
  unfold zagN
  by_cases h2 : n % 2 = 1
  · rw [if_pos h2, h2]
    exact xi_ones _ (by omega)
  · rw [if_neg h2, show n % 2 = 0 by omega]
    exact xi_zero _ (by omega)
theorem zag_in {n : Nat} (h : n < 18446744073709551616) : -9223372036854775808 ≤ zagN n ∧ zagN n ≤ 9223372036854775807 := by unfold zagN; split <;> omega
include hb hl
theorem step_eq {β : Type} (i : Nat) (q : Pt) (f : Int) (hi : i ≤ b.length) (hf : -16777216 ≤ f ∧ f ≤ 16777216) (F : (Int × (((List Int) × Int) × (Int × Int))) → Option β) (G : Int → Option β) :
    rngO (block_cursor_step ((b, (i : Int)), q) f) F G = goR (runA b (turnP f (-16777216) 16777216) i) (fun v j => F (v, ((b, (j : Int)), q))) G := by
  unfold block_cursor_step turnP
  rw [number_eq hb hl i q hi, runA]
  have hlt := num_lt (l := b.drop i) (fun x hx => hb x (List.mem_of_mem_drop hx))
  by_cases h : (num (b.drop i)).2.2 = 0
  · rw [if_pos h, if_pos h]
    unfold rngO block_cursor_within_step_1 block_cursor_step_1
    simp only [bind_some', Sum.elim_inl, vZag_eq hlt]
    have hz := zag_in hlt
    generalize zagN (num (b.drop i)).1 = z at hz
    obtain ⟨c, e, c1, c2, c3⟩ : ∃ c, ad f (mn (mx z (-4294967296)) 4294967296) = f + c ∧ (-4294967296 ≤ z ∧ z ≤ 4294967296 → c = z) ∧ (z < -4294967296 → c = -4294967296) ∧ (4294967296 < z → c = 4294967296) := by
      refine ⟨mn (mx z (-4294967296)) 4294967296, ad_in ?_, ?_, ?_, ?_⟩ <;> unfold mn mx <;> omega
    rw [e]
    by_cases h2 : -4294967296 ≤ z ∧ z ≤ 4294967296 ∧ -16777216 ≤ f + z ∧ f + z ≤ 16777216
    · rw [if_pos h2, c1 ⟨h2.1, h2.2.1⟩, decide_eq_true h2.2.2.1, decide_eq_true h2.2.2.2]; rfl
    · rw [if_neg h2]
      have : (decide (-16777216 ≤ f + c) && decide (f + c ≤ 16777216)) = false := by
        rw [Bool.and_eq_false_iff, decide_eq_false_iff_not, decide_eq_false_iff_not]
        omega
      rw [this]; rfl
  · rw [if_neg h, if_neg h]; rfl
theorem refr_eq {β : Type} (i : Nat) (q : Pt) (hi : i ≤ b.length) (F : (Int × (((List Int) × Int) × (Int × Int))) → Int → Option β) (G : Int → Option β) :
    rngO (block_cursor_number ((b, (i : Int)), q)) (fun r => (varint_Zag r.1).bind fun w => rngO (block_cursor_within_ref ((b, r.2.1.2), r.2.2) w) (fun v => F r v) G) G = goR (runA b (turnP 0 (-65536) 65536) i) (fun v j => F (((num (b.drop i)).1 : Int), ((b, (j : Int)), q)) v) G := by
  unfold turnP
  rw [number_eq hb hl i q hi, runA]
  have hlt := num_lt (l := b.drop i) (fun x hx => hb x (List.mem_of_mem_drop hx))
  by_cases h : (num (b.drop i)).2.2 = 0
  · rw [if_pos h, if_pos h]
    unfold rngO block_cursor_within_ref block_ref
    simp only [bind_some', Sum.elim_inl, vZag_eq hlt]
    have hz := zag_in hlt
    generalize zagN (num (b.drop i)).1 = z at hz
    by_cases h2 : -4294967296 ≤ z ∧ z ≤ 4294967296 ∧ -65536 ≤ 0 + z ∧ 0 + z ≤ 65536
    · rw [if_pos h2, decide_eq_true (by omega), decide_eq_true (by omega), Int.zero_add]; rfl
    · rw [if_neg h2]
      have : (decide (-65536 ≤ z) && decide (z ≤ 65536)) = false := by
        rw [Bool.and_eq_false_iff, decide_eq_false_iff_not, decide_eq_false_iff_not]; omega
      rw [this]; rfl
  · rw [if_neg h, if_neg h]; rfl
theorem net_l2 (c0 : Int) (c1 c2 : Int) (out : List ArcT) (xi lt rt : Int) (k left : Nat) (cu : ((List Int) × Int) × (Int × Int)) (hk : k ≤ 65536) (ho : out.length ≤ 100000) : ∀ (n i : Nat) (at_ : Nat) (p : Pt) (acc : List Pt), i + n = k → acc.length + n ≤ 100000 → at_ ≤ b.length → mayP p = true →
    block_cursor_net_l2 ((b, c0), (c1, c2)) out xi lt rt ((k : Int), cu, (left : Int)) ((at_ : Int), p.1, p.2, acc, (i : Int)) = goR (runA b (ptsP n p acc) at_) (fun r j => some (.inl ((j : Int), r.1.1, r.1.2, out ++ [(r.2, lt, rt)], (left : Int), ad xi 1))) (fun e => some (.inr (.inr e))) := by
  intro n
  unfold block_cursor_net_l2
  induction n with
  | zero =>
    intro i at_ p acc hi ha hat hp
    refine (loopO_inr (r := .inl ((at_ : Int), p.1, p.2, out ++ [(acc, lt, rt)], (left : Int), ad xi 1)) ?_).trans rfl
    dsimp only
    unfold block_cursor_net_b2
    dsimp only
    rw [decide_eq_false (by omega), if_neg (by decide), app_le (by simp only [List.length_cons, List.length_nil]; omega)]; rfl
  | succ n ih =>
    intro i at_ p acc hi ha hat hp
    have hp' := (may_iff p).1 hp
    rw [ptsP, goR_bnd]
    have hbody : block_cursor_net_b2 ((b, c0), (c1, c2)) out xi lt rt ((k : Int), cu, (left : Int)) (at_ : Int) p.1 p.2 acc (i : Int) = goR (runA b (turnP p.1 (-16777216) 16777216) at_) (fun x j1 => goR (runA b (turnP p.2 (-16777216) 16777216) j1) (fun y j2 => some (.inl ((j2 : Int), x, y, acc ++ [(x, y)], ((i + 1 : Nat) : Int)))) (fun e => some (.inr (.inr (.inr e))))) (fun e => some (.inr (.inr (.inr e)))) := by
      unfold block_cursor_net_b2
      dsimp only
      rw [decide_eq_true (by omega), if_pos rfl, step_eq hb hl at_ (p.1, p.2) p.1 hat hp'.1]
      refine goR_cases hb hat (fun x j1 hj1 _ => ?_) (fun _ _ => rfl)
      dsimp only
      rw [step_eq hb hl j1 (p.1, p.2) p.2 hj1 hp'.2]
      refine goR_cases hb hj1 (fun y j2 _ _ => ?_) (fun _ _ => rfl)
      rw [app_le (by simp only [List.length_cons, List.length_nil]; omega), bind_some', ad_one (by omega)]
    cases h1 : runA b (turnP p.1 (-16777216) 16777216) at_ with
    | inr e =>
      rw [h1] at hbody
      exact loopO_inr hbody
    | inl r1 =>
      obtain ⟨x, j1⟩ := r1
      have hj1 := runA_le hb _ _ _ _ hat h1
      have hx := turn_in h1
      rw [h1] at hbody
      show _ = goR (runA b (Prs.bnd _ _) j1) _ _
      rw [goR_bnd]
      cases h2 : runA b (turnP p.2 (-16777216) 16777216) j1 with
      | inr e =>
        replace hbody : _ = goR (runA b (turnP p.2 (-16777216) 16777216) j1) _ _ := hbody
        rw [h2] at hbody
        exact loopO_inr hbody
      | inl r2 =>
        obtain ⟨y, j2⟩ := r2
        have hj2 := runA_le hb _ _ _ _ hj1 h2
        have hy := turn_in h2
        replace hbody : _ = goR (runA b (turnP p.2 (-16777216) 16777216) j1) _ _ := hbody
        rw [h2] at hbody
        refine (loopO_inl hbody).trans ?_
        exact ih (i + 1) j2 (x, y) _ (by omega) (by rw [List.length_append, List.length_singleton]; omega) hj2 ((may_iff _).2 ⟨hx, hy⟩)
theorem net_l5 (c0 : Int) (c1 c2 : Int) (L : List (List Int)) (xi : Int) (k left : Nat) (cu : ((List Int) × Int) × (Int × Int)) (hk : k ≤ 65536) (ho : L.length ≤ 100000) : ∀ (n i : Nat) (at_ : Nat) (p : Pt) (acc : List Int), i + n = k → acc.length + n ≤ 100000 → at_ ≤ b.length →
    block_cursor_net_l5 ((b, c0), (c1, c2)) L xi ((k : Int), cu, (left : Int)) ((at_ : Int), p.1, p.2, acc, (i : Int)) = goR (runA b (refsPr n acc) at_) (fun r j => some (.inl ((j : Int), p.1, p.2, (left : Int), L ++ [r], ad xi 1))) (fun e => some (.inr (.inr (.inr e)))) := by
  intro n
  unfold block_cursor_net_l5
  induction n with
  | zero =>
    intro i at_ p acc hi ha hat
    refine (loopO_inr (r := .inl ((at_ : Int), p.1, p.2, (left : Int), L ++ [acc], ad xi 1)) ?_).trans rfl
    dsimp only
    unfold block_cursor_net_b5
    dsimp only
    rw [decide_eq_false (by omega), if_neg (by decide), app_le (by simp only [List.length_cons, List.length_nil]; omega)]; rfl
  | succ n ih =>
    intro i at_ p acc hi ha hat
    rw [refsPr, goR_bnd]
    have hbody : block_cursor_net_b5 ((b, c0), (c1, c2)) L xi ((k : Int), cu, (left : Int)) (at_ : Int) p.1 p.2 acc (i : Int) = goR (runA b (turnP 0 (-65536) 65536) at_) (fun x j1 => some (.inl ((j1 : Int), p.1, p.2, acc ++ [x], ((i + 1 : Nat) : Int)))) (fun e => some (.inr (.inr (.inr (.inr e))))) := by
      unfold block_cursor_net_b5
      dsimp only
      rw [decide_eq_true (by omega), if_pos rfl, refr_eq hb hl at_ (p.1, p.2) hat]
      refine goR_cases hb hat (fun x j1 hj1 _ => ?_) (fun _ _ => rfl)
      rw [app_le (by simp only [List.length_cons, List.length_nil]; omega), bind_some', ad_one (by omega)]
    cases h1 : runA b (turnP 0 (-65536) 65536) at_ with
    | inr e =>
      rw [h1] at hbody
      exact loopO_inr hbody
    | inl r1 =>
      obtain ⟨x, j1⟩ := r1
      have hj1 := runA_le hb _ _ _ _ hat h1
      rw [h1] at hbody
      refine (loopO_inl hbody).trans ?_
      exact ih (i + 1) j1 p _ (by omega) (by rw [List.length_append, List.length_singleton]; omega) hj1
theorem net_l4 (c0 : Int) (c1 c2 : Int) (out : List (List (List Int))) (xi : Int) (k left : Nat) (cu : ((List Int) × Int) × (Int × Int)) (hk : k ≤ 64) (ho : out.length ≤ 100000) : ∀ (n i : Nat) (at_ : Nat) (p : Pt) (refs : Nat) (acc : List (List Int)), i + n = k → acc.length + n ≤ 100000 → refs ≤ 65536 → at_ ≤ b.length →
    block_cursor_net_l4 ((b, c0), (c1, c2)) out xi ((k : Int), cu, (left : Int)) ((at_ : Int), p.1, p.2, (refs : Int), acc, (i : Int)) = goR (runA b (ringsPr n refs acc) at_) (fun r j => some (.inl ((j : Int), p.1, p.2, out ++ [r.2], (left : Int), (r.1 : Int), ad xi 1))) (fun e => some (.inr (.inr e))) := by
  intro n
  unfold block_cursor_net_l4
  induction n with
  | zero =>
    intro i at_ p refs acc hi ha hr hat
    refine (loopO_inr (r := .inl ((at_ : Int), p.1, p.2, out ++ [acc], (left : Int), (refs : Int), ad xi 1)) ?_).trans rfl
    dsimp only
    unfold block_cursor_net_b4
    dsimp only
    rw [decide_eq_false (by omega), if_neg (by decide), app_le (by simp only [List.length_cons, List.length_nil]; omega)]; rfl
  | succ n ih =>
    intro i at_ p refs acc hi ha hr hat
    rw [ringsPr, goR_bnd]
    have hbody : block_cursor_net_b4 ((b, c0), (c1, c2)) out xi ((k : Int), cu, (left : Int)) (at_ : Int) p.1 p.2 (refs : Int) acc (i : Int) = goR (runA b (upP refs 6) at_) (fun m j1 => goR (runA b (refsPr m []) j1) (fun r j2 => some (.inl ((j2 : Int), p.1, p.2, ((refs - m : Nat) : Int), acc ++ [r], ((i + 1 : Nat) : Int)))) (fun e => some (.inr (.inr (.inr e))))) (fun e => some (.inr (.inr (.inr e)))) := by
      unfold block_cursor_net_b4
      dsimp only
      rw [decide_eq_true (by omega), if_pos rfl, count_eq hb hl at_ (p.1, p.2) refs hat hr]
      refine goR_cases hb hat (fun m j1 hj1 hm => ?_) (fun _ _ => rfl)
      have hm' := up_le hm
      dsimp only
      have := net_l5 hb hl c0 c1 c2 acc (i : Int) m (refs - m) ((b, (j1 : Int)), (p.1, p.2)) (by omega) (by omega) m 0 j1 p [] (by omega) (by simp only [List.length_nil]; omega) hj1
      rw [ad_one (by omega)] at this
      exact this
    cases h1 : runA b (upP refs 6) at_ with
    | inr e =>
      rw [h1] at hbody
      exact loopO_inr hbody
    | inl r1 =>
      obtain ⟨m, j1⟩ := r1
      have hj1 := runA_le hb _ _ _ _ hat h1
      have hm := up_le h1
      rw [h1] at hbody
      show _ = goR (runA b (Prs.bnd _ _) j1) _ _
      rw [goR_bnd]
      replace hbody : _ = goR (runA b (refsPr m []) j1) _ _ := hbody
      cases h2 : runA b (refsPr m []) j1 with
      | inr e =>
        rw [h2] at hbody
        exact loopO_inr hbody
      | inl r2 =>
        obtain ⟨y, j2⟩ := r2
        have hj2 := runA_le hb _ _ _ _ hj1 h2
        rw [h2] at hbody
        refine (loopO_inl hbody).trans ?_
        exact ih (i + 1) j2 p (refs - m) _ (by omega) (by rw [List.length_append, List.length_singleton]; omega) (by omega) hj2
omit hb hl in
theorem rings_refs {i k refs j : Nat} {acc : List (List Int)} {r : Nat × List (List Int)} : runA b (ringsPr k refs acc) i = .inl (r, j) → r.1 ≤ refs := by
  induction k generalizing i refs acc with
  | zero => intro h; injection h with h; injection h with h1 h2; rw [← h1]; exact Nat.le_refl _
  | succ k ih =>
    intro h
    rw [ringsPr, runA_bnd] at h
    cases h1 : runA b (upP refs 6) i with
    | inr e => rw [h1] at h; cases h
    | inl q =>
      obtain ⟨m, j1⟩ := q
      rw [h1] at h
      replace h : runA b (Prs.bnd _ _) j1 = _ := h
      rw [runA_bnd] at h
      cases h2 : runA b (refsPr m []) j1 with
      | inr e => rw [h2] at h; cases h
      | inl q2 =>
        rw [h2] at h
        have := ih h
        omega
theorem net_l3 (c0 : Int) (c1 c2 : Int) (A : List ArcT) (k left : Nat) (cu : ((List Int) × Int) × (Int × Int)) (hk : k ≤ 32) : ∀ (n i : Nat) (at_ : Nat) (p : Pt) (rings refs : Nat) (acc : List (List (List Int))), i + n = k → acc.length + n ≤ 100000 → rings ≤ 64 → refs ≤ 65536 → at_ ≤ b.length →
    block_cursor_net_l3 ((b, c0), (c1, c2)) A ((k : Int), cu, (left : Int)) ((at_ : Int), p.1, p.2, acc, (rings : Int), (refs : Int), (i : Int)) = goR (runA b (facesPr n rings refs acc) at_) (fun r j => some (.inl ((A, r.2.2), ((b, (j : Int)), (p.1, p.2))))) (fun e => some (.inr e)) := by
  intro n
  unfold block_cursor_net_l3
  induction n with
  | zero =>
    intro i at_ p rings refs acc hi ha hg hr hat
    refine (loopO_inr (r := .inl ((A, acc), ((b, (at_ : Int)), (p.1, p.2)))) ?_).trans rfl
    dsimp only
    unfold block_cursor_net_b3
    dsimp only
    rw [decide_eq_false (by omega), if_neg (by decide)]; rfl
  | succ n ih =>
    intro i at_ p rings refs acc hi ha hg hr hat
    rw [facesPr, goR_bnd]
    have hbody : block_cursor_net_b3 ((b, c0), (c1, c2)) A ((k : Int), cu, (left : Int)) (at_ : Int) p.1 p.2 acc (rings : Int) (refs : Int) (i : Int) = goR (runA b (upP rings 6) at_) (fun m j1 => goR (runA b (ringsPr m refs []) j1) (fun r j2 => some (.inl ((j2 : Int), p.1, p.2, acc ++ [r.2], ((rings - m : Nat) : Int), (r.1 : Int), ((i + 1 : Nat) : Int)))) (fun e => some (.inr (.inr e)))) (fun e => some (.inr (.inr e))) := by
      unfold block_cursor_net_b3
      dsimp only
      rw [decide_eq_true (by omega), if_pos rfl, count_eq hb hl at_ (p.1, p.2) rings hat (by omega)]
      refine goR_cases hb hat (fun m j1 hj1 hm => ?_) (fun _ _ => rfl)
      have hm' := up_le hm
      dsimp only
      have := net_l4 hb hl c0 c1 c2 acc (i : Int) m (rings - m) ((b, (j1 : Int)), (p.1, p.2)) (by omega) (by omega) m 0 j1 p refs [] (by omega) (by simp only [List.length_nil]; omega) hr hj1
      rw [ad_one (by omega)] at this
      exact this
    cases h1 : runA b (upP rings 6) at_ with
    | inr e =>
      rw [h1] at hbody
      exact loopO_inr hbody
    | inl r1 =>
      obtain ⟨m, j1⟩ := r1
      have hj1 := runA_le hb _ _ _ _ hat h1
      have hm := up_le h1
      rw [h1] at hbody
      show _ = goR (runA b (Prs.bnd _ _) j1) _ _
      rw [goR_bnd]
      replace hbody : _ = goR (runA b (ringsPr m refs []) j1) _ _ := hbody
      cases h2 : runA b (ringsPr m refs []) j1 with
      | inr e =>
        rw [h2] at hbody
        exact loopO_inr hbody
      | inl r2 =>
        obtain ⟨y, j2⟩ := r2
        have hj2 := runA_le hb _ _ _ _ hj1 h2
        have hy := rings_refs h2
        rw [h2] at hbody
        refine (loopO_inl hbody).trans ?_
        exact ih (i + 1) j2 p (rings - m) y.1 _ (by omega) (by rw [List.length_append, List.length_singleton]; omega) (by omega) (by omega) hj2
omit hb hl in
theorem pts_may {k i j : Nat} {p : Pt} {acc : List Pt} {r : Pt × List Pt} : mayP p = true → runA b (ptsP k p acc) i = .inl (r, j) → mayP r.1 = true := by
  induction k generalizing i p acc with
  | zero => intro hp h; injection h with h; injection h with h1 h2; rw [← h1]; exact hp
  | succ k ih =>
    intro hp h
    rw [ptsP, runA_bnd] at h
    cases h1 : runA b (turnP p.1 (-16777216) 16777216) i with
    | inr e => rw [h1] at h; cases h
    | inl q =>
      obtain ⟨x, j1⟩ := q
      rw [h1] at h
      replace h : runA b (Prs.bnd _ _) j1 = _ := h
      rw [runA_bnd] at h
      cases h2 : runA b (turnP p.2 (-16777216) 16777216) j1 with
      | inr e => rw [h2] at h; cases h
      | inl q2 =>
        obtain ⟨y, j2⟩ := q2
        rw [h2] at h
        exact ih ((may_iff _).2 ⟨turn_in h1, turn_in h2⟩) h
noncomputable def facesK (b : List Int) (c0 c1 c2 : Int) (A : List ArcT) (j : Nat) (q : Pt) : Option ((NetP × (((List Int) × Int) × (Int × Int))) ⊕ Int) :=
  rngO (block_cursor_count ((b, (j : Int)), q) 32) (fun r => block_cursor_net_l3 ((b, c0), (c1, c2)) A r (r.2.1.1.2, r.2.1.2.1, r.2.1.2.2, ([] : List (List (List Int))), 64, 65536, 0)) (fun e => some (Sum.inr e))
theorem net_l1 (c0 : Int) (c1 c2 : Int) (k left : Nat) (cu : ((List Int) × Int) × (Int × Int)) (hk : k ≤ 65536) : ∀ (n i : Nat) (at_ : Nat) (p : Pt) (pts : Nat) (acc : List ArcT), i + n = k → acc.length + n ≤ 70000 → pts ≤ 65536 → at_ ≤ b.length → mayP p = true →
    block_cursor_net_l1 ((b, c0), (c1, c2)) ((k : Int), cu, (left : Int)) ((at_ : Int), p.1, p.2, acc, (pts : Int), (i : Int)) = goR (runA b (arcsP n p pts acc) at_) (fun r j => facesK b c0 c1 c2 r.2.2 j r.1) (fun e => some (.inr e)) := by
  intro n
  unfold block_cursor_net_l1
  induction n with
  | zero =>
    intro i at_ p pts acc hi ha hg hat hp
    refine loopO_ret (X := facesK b c0 c1 c2 acc at_ (p.1, p.2)) ?_
    dsimp only
    unfold block_cursor_net_b1
    dsimp only
    rw [decide_eq_false (by omega), if_neg (by decide)]; rfl
  | succ n ih =>
    intro i at_ p pts acc hi ha hg hat hp
    rw [arcsP, goR_bnd]
    have hbody : block_cursor_net_b1 ((b, c0), (c1, c2)) ((k : Int), cu, (left : Int)) (at_ : Int) p.1 p.2 acc (pts : Int) (i : Int) = goR (runA b (upP 32 5) at_) (fun lt j1 => goR (runA b (upP 32 5) j1) (fun rt j2 => goR (runA b (upP pts 6) j2) (fun m j3 => goR (runA b (ptsP m p []) j3) (fun r j4 => some (.inl ((j4 : Int), r.1.1, r.1.2, acc ++ [(r.2, (lt : Int), (rt : Int))], ((pts - m : Nat) : Int), ((i + 1 : Nat) : Int)))) (fun e => some (.inr (.inr e)))) (fun e => some (.inr (.inr e)))) (fun e => some (.inr (.inr e)))) (fun e => some (.inr (.inr e))) := by
      unfold block_cursor_net_b1
      dsimp only
      rw [decide_eq_true (by omega), if_pos rfl]
      refine (side_eq hb hl at_ (p.1, p.2) hat (fun r v => rngO (block_cursor_number ((b, r.2.1.2), r.2.2)) (fun r2 => (block_whole r2.1).bind fun w2 => rngO (block_cursor_within_side ((b, r2.2.1.2), r2.2.2) w2) (fun v2 => rngO (block_cursor_count ((b, r2.2.1.2), r2.2.2) (pts : Int)) (fun r3 => block_cursor_net_l2 ((b, c0), (c1, c2)) acc (i : Int) v v2 r3 (r3.2.1.1.2, r3.2.1.2.1, r3.2.1.2.2, ([] : List (Int × Int)), 0)) (fun e => Option.map Sum.inr (some (Sum.inr e)))) (fun e => Option.map Sum.inr (some (Sum.inr e)))) (fun e => Option.map Sum.inr (some (Sum.inr e)))) (fun e => Option.map Sum.inr (some (Sum.inr e)))).trans ?_
      refine goR_cases hb hat (fun lt j1 hj1 _ => ?_) (fun _ _ => rfl)
      dsimp only
      refine (side_eq hb hl j1 (p.1, p.2) hj1 (fun r2 v2 => rngO (block_cursor_count ((b, r2.2.1.2), r2.2.2) (pts : Int)) (fun r3 => block_cursor_net_l2 ((b, c0), (c1, c2)) acc (i : Int) (lt : Int) v2 r3 (r3.2.1.1.2, r3.2.1.2.1, r3.2.1.2.2, ([] : List (Int × Int)), 0)) (fun e => Option.map Sum.inr (some (Sum.inr e)))) (fun e => Option.map Sum.inr (some (Sum.inr e)))).trans ?_
      refine goR_cases hb hj1 (fun rt j2 hj2 _ => ?_) (fun _ _ => rfl)
      dsimp only
      rw [count_eq hb hl j2 (p.1, p.2) pts hj2 hg]
      refine goR_cases hb hj2 (fun m j3 hj3 hm => ?_) (fun _ _ => rfl)
      have hm' := up_le hm
      dsimp only
      have := net_l2 hb hl c0 c1 c2 acc (i : Int) (lt : Int) (rt : Int) m (pts - m) ((b, (j3 : Int)), (p.1, p.2)) (by omega) (by omega) m 0 j3 p [] (by omega) (by simp only [List.length_nil]; omega) hj3 hp
      rw [ad_one (by omega)] at this
      exact this
    cases h1 : runA b (upP 32 5) at_ with
    | inr e =>
      rw [h1] at hbody
      exact loopO_inr hbody
    | inl r1 =>
      obtain ⟨lt, j1⟩ := r1
      have hj1 := runA_le hb _ _ _ _ hat h1
      rw [h1] at hbody
      show _ = goR (runA b (Prs.bnd _ _) j1) _ _
      rw [goR_bnd]
      replace hbody : _ = goR (runA b (upP 32 5) j1) _ _ := hbody
      cases h2 : runA b (upP 32 5) j1 with
      | inr e =>
        rw [h2] at hbody
        exact loopO_inr hbody
      | inl r2 =>
        obtain ⟨rt, j2⟩ := r2
        have hj2 := runA_le hb _ _ _ _ hj1 h2
        rw [h2] at hbody
        show _ = goR (runA b (Prs.bnd _ _) j2) _ _
        rw [goR_bnd]
        replace hbody : _ = goR (runA b (upP pts 6) j2) _ _ := hbody
        cases h3 : runA b (upP pts 6) j2 with
        | inr e =>
          rw [h3] at hbody
          exact loopO_inr hbody
        | inl r3 =>
          obtain ⟨m, j3⟩ := r3
          have hj3 := runA_le hb _ _ _ _ hj2 h3
          have hm := up_le h3
          rw [h3] at hbody
          show _ = goR (runA b (Prs.bnd _ _) j3) _ _
          rw [goR_bnd]
          replace hbody : _ = goR (runA b (ptsP m p []) j3) _ _ := hbody
          cases h4 : runA b (ptsP m p []) j3 with
          | inr e =>
            rw [h4] at hbody
            exact loopO_inr hbody
          | inl r4 =>
            obtain ⟨y, j4⟩ := r4
            have hj4 := runA_le hb _ _ _ _ hj3 h4
            have hy := pts_may hp h4
            rw [h4] at hbody
            refine (loopO_inl hbody).trans ?_
            exact ih (i + 1) j4 y.1 (pts - m) _ (by omega) (by rw [List.length_append, List.length_singleton]; omega) (by omega) hj4 hy
omit hb hl
theorem rngO_goR {α β γ δ : Type} (r : (α × Nat) ⊕ Int) (f : α → Nat → Option (β ⊕ γ)) (g : Int → Option (β ⊕ γ)) (K1 : β → Option δ) (K2 : γ → Option δ) : rngO (goR r f g) K1 K2 = goR r (fun a j => rngO (f a j) K1 K2) (fun e => rngO (g e) K1 K2) := by
  cases r <;> rfl
include hb hl
theorem Read_eq : block_Read b = goR (runA b netPr 0) (fun n j => some (n, (j : Int), 0)) (fun e => some (([], []), 0, e)) := by
  unfold block_Read block_cursor_net block_Read_1_stop netPr
  rw [show (65536 : Int) = ((65536 : Nat) : Int) from rfl, show ((b, (0 : Int)), ((0 : Int), (0 : Int))) = ((b, ((0 : Nat) : Int)), ((0, 0) : Pt)) from rfl, count_eq hb hl 0 (0, 0) 65536 (by omega) (by omega), rngO_goR, goR_bnd]
  refine goR_cases hb (by omega) (fun c j hj hc => ?_) (fun _ _ => rfl)
  have hc' := up_le hc
  dsimp only
  have h1 := net_l1 hb hl ((0 : Nat) : Int) 0 0 c (65536 - c) ((b, (j : Int)), (0, 0)) (by omega) c 0 j (0, 0) 65536 [] (by omega) (by simp only [List.length_nil]; omega) (by omega) hj (by decide)
  rw [show block_cursor_net_l1 ((b, ((0 : Nat) : Int)), ((0, 0) : Pt)) ((c : Int), ((b, (j : Int)), ((0, 0) : Pt)), ((65536 - c : Nat) : Int)) ((j : Int), 0, 0, [], ((65536 : Nat) : Int), 0) = _ from h1, rngO_goR, goR_bnd]
  refine goR_cases hb hj (fun s j2 hj2 hs => ?_) (fun _ _ => rfl)
  unfold facesK
  rw [show (32 : Int) = ((32 : Nat) : Int) from rfl, count_eq hb hl j2 s.1 32 hj2 (by omega), rngO_goR, goR_bnd]
  refine goR_cases hb hj2 (fun f j3 hj3 hf => ?_) (fun _ _ => rfl)
  have hf' := up_le hf
  dsimp only
  have h3 := net_l3 hb hl ((0 : Nat) : Int) 0 0 s.2.2 f (32 - f) ((b, (j3 : Int)), s.1) (by omega) f 0 j3 s.1 64 65536 [] (by omega) (by simp only [List.length_nil]; omega) (by omega) (by omega) hj3
  rw [show block_cursor_net_l3 ((b, ((0 : Nat) : Int)), (0, 0)) s.2.2 ((f : Int), ((b, (j3 : Int)), s.1), ((32 - f : Nat) : Int)) ((j3 : Int), s.1.1, s.1.2, [], 64, 65536, 0) = _ from h3, rngO_goR, goR_bnd]
  exact goR_cases hb hj3 (fun t j4 _ _ => rfl) (fun _ _ => rfl)
theorem Parse_eq : block_Parse b = goR (runA b netPr 0) (fun n j => some (if j < b.length then (([], []), 3) else (n, 0))) (fun e => some (([], []), e)) := by
  unfold block_Parse
  rw [Read_eq hb hl]
  cases h : runA b netPr 0 with
  | inl r =>
    obtain ⟨n, j⟩ := r
    unfold goR
    rw [bind_some']
    dsimp only
    rw [decide_eq_true rfl, Bool.not_true, if_neg (by decide)]
    by_cases hj : j < b.length
    · rw [if_pos hj, decide_eq_true (by omega), if_pos rfl]
    · rw [if_neg hj, decide_eq_false (by omega), if_neg (by decide)]
  | inr e =>
    unfold goR
    rw [bind_some']
    dsimp only
    rw [decide_eq_false (er_net b 0 e h), Bool.not_false, if_pos rfl]
end
end Go.Proofs.Ytaobbaohelpdgaa.Pl
