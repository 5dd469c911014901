import Derived.Test.YtaobbaohelpdgaaP26e
namespace Go.Proofs.Ytaobbaohelpdgaa.Pl
set_option maxRecDepth 4000
theorem num_invG : ∀ (l : List Int) (i n v s : Nat), (∀ x ∈ l, U8 x) → i ≤ 10 → numG i n l = (v, s, 0) → ∃ w, v = n + w * 128 ^ i ∧ i < s ∧ s ≤ i + l.length ∧ vbF (10 - i) w = l.take (s - i) ∧ (0 < i → 0 < w) ∧ (w + 1) * 128 ^ i ≤ 18446744073709551616
  | [], i, n, v, s, _, _, h => by
    rw [numG] at h
    split at h <;> simp at h
  | x :: l, i, n, v, s, hb, hi, h => by
    obtain ⟨m, hm, rfl⟩ := u8_nat (hb x (by simp))
    rw [numG] at h
    by_cases h10 : i = 10
    · rw [if_pos h10] at h; simp at h
    rw [if_neg h10] at h
    obtain ⟨j, hj⟩ : ∃ j, 10 - i = j + 1 := ⟨9 - i, by omega⟩
    by_cases h1 : (128 : Int) ≤ (m : Int)
    · rw [if_pos h1, Int.toNat_natCast] at h
      obtain ⟨w, e1, e2, e3, e4, e5, e6⟩ := num_invG l (i + 1) _ v s (fun y hy => hb y (by simp [hy])) (by omega) h
      have hw := e5 (by omega)
      refine ⟨(m - 128) + 128 * w, ?_, by omega, by simp only [List.length_cons]; omega, ?_, fun _ => by omega, ?_⟩
      · rw [e1, Nat.add_mul, Nat.pow_succ, Nat.mul_comm (128 ^ i) 128, ← Nat.mul_assoc, Nat.mul_comm w 128]; omega
      · rw [hj, vbF, if_neg (by omega), show s - i = (s - (i + 1)) + 1 by omega, List.take_succ_cons, show (m - 128 + 128 * w) % 128 + 128 = m by omega, show (m - 128 + 128 * w) / 128 = w by omega, show j = 10 - (i + 1) by omega, e4]
      · rw [Nat.pow_succ, Nat.mul_comm (128 ^ i), ← Nat.mul_assoc] at e6
        exact Nat.le_trans (Nat.mul_le_mul_right _ (by omega)) e6
    · rw [if_neg h1] at h
      by_cases h2 : i = 9 ∧ (1 : Int) < (m : Int)
      · rw [if_pos h2] at h; simp at h
      rw [if_neg h2] at h
      by_cases h3 : 0 < i ∧ (m : Int) = 0
      · rw [if_pos h3] at h; simp at h
      rw [if_neg h3, Int.toNat_natCast] at h
      injection h with a1 a2
      injection a2 with a2 a3
      refine ⟨m, a1.symm, by omega, by simp only [List.length_cons]; omega, ?_, fun _ => by omega, ?_⟩
      · rw [hj, vbF, if_pos (by omega), show s - i = 0 + 1 by omega, List.take_succ_cons, List.take_zero]
      · by_cases h9 : i = 9
        · subst h9
          have : (128 : Nat) ^ 9 = 9223372036854775808 := by decide
          rw [this]
          omega
        · have := Nat.pow_le_pow_right (show 0 < 128 by omega) (show i ≤ 8 by omega)
          have h2 : (m + 1) * 128 ^ i ≤ 128 * 128 ^ i := Nat.mul_le_mul_right _ (by omega)
          omega
theorem num_inv {l : List Int} {v s : Nat} (hb : ∀ x ∈ l, U8 x) (h : num l = (v, s, 0)) : v < 18446744073709551616 ∧ s ≤ l.length ∧ vb v = l.take s ∧ (vb v).length = s := by
  obtain ⟨w, e1, e2, e3, e4, e5, e6⟩ := num_invG l 0 0 v s hb (by omega) h
  rw [Nat.pow_zero, Nat.mul_one, Nat.zero_add] at e1
  subst e1
  have e4 : vb v = l.take s := e4
  exact ⟨by omega, by omega, e4, by rw [e4, List.length_take]; omega⟩
theorem num_len {l : List Int} (hb : ∀ x ∈ l, U8 x) : (num l).2.1 ≤ l.length := by
  by_cases h : (num l).2.2 = 0
  · exact (num_inv hb (v := (num l).1) (s := (num l).2.1) (by rw [← h])).2.1
  · have : ∀ (l : List Int) (i n : Nat), (numG i n l).2.2 ≠ 0 → (numG i n l).2.1 = 0 := by
      intro l
      induction l with
      | nil => intro i n h; rw [numG] at h ⊢; split <;> rfl
      | cons x l ih =>
        intro i n h
        rw [numG] at h ⊢
        split
        · rfl
        · rename_i h1
          rw [if_neg h1] at h
          split
          · rename_i h2
            rw [if_pos h2] at h
            exact ih _ _ h
          · rename_i h2
            rw [if_neg h2] at h
            split
            · rfl
            · rename_i h3
              rw [if_neg h3] at h
              split
              · rfl
              · rename_i h4
                rw [if_neg h4] at h
                exact (h rfl).elim
    have h2 : (num l).2.1 = 0 := this l 0 0 h
    omega
inductive Prs (α : Type) where
  | ret (a : α)
  | err (e : Int)
  | nx (k : Nat → Prs α)
section
variable {α β : Type}
def Prs.bnd : Prs α → (α → Prs β) → Prs β
  | .ret a, f => f a
  | .err e, _ => .err e
  | .nx k, f => .nx fun x => (k x).bnd f
def runA (b : List Int) : Prs α → Nat → (α × Nat) ⊕ Int
  | .ret a, p => .inl (a, p)
  | .err e, _ => .inr e
  | .nx k, p => if (num (b.drop p)).2.2 = 0 then runA b (k (num (b.drop p)).1) (p + (num (b.drop p)).2.1) else .inr (num (b.drop p)).2.2
def eat : Prs α → List Nat → Option α
  | .ret a, [] => some a
  | .nx k, x :: xs => eat (k x) xs
  | _, _ => none
def cat (xs : List Nat) : List Int := xs.flatMap vb
theorem cat_cons (x : Nat) (xs : List Nat) : cat (x :: xs) = vb x ++ cat xs := rfl
theorem cat_app (xs ys : List Nat) : cat (xs ++ ys) = cat xs ++ cat ys := List.flatMap_append
theorem runA_bnd {b : List Int} (f : α → Prs β) : ∀ (p : Prs α) (i : Nat), runA b (p.bnd f) i = match runA b p i with
    | .inl (a, j) => runA b (f a) j
    | .inr e => .inr e
  | .ret a, i => rfl
  | .err e, i => rfl
  | .nx k, i => by
    show (if (num (b.drop i)).2.2 = 0 then runA b ((k _).bnd f) _ else _) = _
    rw [runA]
    by_cases h : (num (b.drop i)).2.2 = 0
    · rw [if_pos h, if_pos h, runA_bnd f (k _)]
    · rw [if_neg h, if_neg h]
theorem runA_inv {b : List Int} (hb : ∀ x ∈ b, U8 x) : ∀ (p : Prs α) (i : Nat) (a : α) (j : Nat), i ≤ b.length → runA b p i = .inl (a, j) → ∃ xs, (∀ x ∈ xs, x < 18446744073709551616) ∧ eat p xs = some a ∧ b.drop i = cat xs ++ b.drop j ∧ j = i + (cat xs).length ∧ j ≤ b.length
  | .ret c, i, a, j, hi, h => by
    injection h with h
    injection h with h1 h2
    subst h1 h2
    exact ⟨[], by simp, rfl, rfl, rfl, hi⟩
  | .err e, i, a, j, hi, h => by cases h
  | .nx k, i, a, j, hi, h => by
    rw [runA] at h
    by_cases h0 : (num (b.drop i)).2.2 = 0
    · rw [if_pos h0] at h
      obtain ⟨h1, h2, h3, h4⟩ := num_inv (fun x hx => hb x (List.mem_of_mem_drop hx)) (l := b.drop i) (v := (num (b.drop i)).1) (s := (num (b.drop i)).2.1) (by rw [← h0])
      rw [List.length_drop] at h2
      obtain ⟨xs, e1, e2, e3, e4, e5⟩ := runA_inv hb (k _) _ a j (by omega) h
      refine ⟨(num (b.drop i)).1 :: xs, fun x hx => ?_, e2, ?_, ?_, e5⟩
      · rcases List.mem_cons.1 hx with h' | h'
        · rw [h']; exact h1
        · exact e1 x h'
      · rw [cat_cons, List.append_assoc, ← e3, h3, ← List.drop_drop, List.take_append_drop]
      · rw [e4, cat_cons, List.length_append, h4]; omega
    · rw [if_neg h0] at h; cases h
theorem eat_bnd (f : α → Prs β) : ∀ (p : Prs α) (xs : List Nat) (r : β), eat (p.bnd f) xs = some r ↔ ∃ a ys zs, xs = ys ++ zs ∧ eat p ys = some a ∧ eat (f a) zs = some r
  | .ret a, xs, r => by
    constructor
    · intro h; exact ⟨a, [], xs, rfl, rfl, h⟩
    · rintro ⟨c, ys, zs, rfl, h1, h2⟩
      cases ys with
      | nil => injection h1 with h1; subst h1; exact h2
      | cons y ys => cases h1
  | .err e, xs, r => by
    constructor
    · intro h; cases h
    · rintro ⟨c, ys, zs, rfl, h1, h2⟩; cases h1
  | .nx k, xs, r => by
    constructor
    · intro h
      cases xs with
      | nil => cases h
      | cons x xs =>
        obtain ⟨a, ys, zs, rfl, h1, h2⟩ := (eat_bnd f (k x) xs r).1 h
        exact ⟨a, x :: ys, zs, rfl, h1, h2⟩
    · rintro ⟨c, ys, zs, rfl, h1, h2⟩
      cases ys with
      | nil => cases h1
      | cons y ys => exact (eat_bnd f (k y) (ys ++ zs) r).2 ⟨c, ys, zs, rfl, h1, h2⟩
def Sm (p : Prs α) : Prop := ∀ xs a, eat p xs = some a → ∀ x ∈ xs, x < 18446744073709551616
theorem Sm.ret (a : α) : Sm (Prs.ret a) := fun xs c h => by
  cases xs with
  | nil => simp
  | cons x xs => cases h
theorem Sm.bnd {p : Prs α} {f : α → Prs β} (hp : Sm p) (hf : ∀ a, Sm (f a)) : Sm (p.bnd f) := fun xs r h => by
  obtain ⟨a, ys, zs, rfl, h1, h2⟩ := (eat_bnd f p xs r).1 h
  intro x hx
  rcases List.mem_append.1 hx with h' | h'
  · exact hp ys a h1 x h'
  · exact hf a zs r h2 x h'
end
abbrev ArcT := (List Pt) × Int × Int
def upP (g : Nat) (e : Int) : Prs Nat := .nx fun x => if x ≤ g then .ret x else .err e
def zagN (x : Nat) : Int := if x % 2 = 1 then -((x / 2 : Nat) : Int) - 1 else ((x / 2 : Nat) : Int)
def turnP (f lo hi : Int) : Prs Int := .nx fun x => if -4294967296 ≤ zagN x ∧ zagN x ≤ 4294967296 ∧ lo ≤ f + zagN x ∧ f + zagN x ≤ hi then .ret (f + zagN x) else .err 5
def ptsP : Nat → Pt → List Pt → Prs (Pt × List Pt)
  | 0, p, acc => .ret (p, acc)
  | k + 1, p, acc => (turnP p.1 (-16777216) 16777216).bnd fun x => (turnP p.2 (-16777216) 16777216).bnd fun y => ptsP k (x, y) (acc ++ [(x, y)])
def arcsP : Nat → Pt → Nat → List ArcT → Prs (Pt × Nat × List ArcT)
  | 0, p, pts, acc => .ret (p, pts, acc)
  | k + 1, p, pts, acc => (upP 32 5).bnd fun lt => (upP 32 5).bnd fun rt => (upP pts 6).bnd fun m => (ptsP m p []).bnd fun r => arcsP k r.1 (pts - m) (acc ++ [(r.2, (lt : Int), (rt : Int))])
def refsPr : Nat → List Int → Prs (List Int)
  | 0, acc => .ret acc
  | k + 1, acc => (turnP 0 (-65536) 65536).bnd fun x => refsPr k (acc ++ [x])
def ringsPr : Nat → Nat → List (List Int) → Prs (Nat × List (List Int))
  | 0, refs, acc => .ret (refs, acc)
  | k + 1, refs, acc => (upP refs 6).bnd fun m => (refsPr m []).bnd fun r => ringsPr k (refs - m) (acc ++ [r])
def facesPr : Nat → Nat → Nat → List (List (List Int)) → Prs (Nat × Nat × List (List (List Int)))
  | 0, rings, refs, acc => .ret (rings, refs, acc)
  | k + 1, rings, refs, acc => (upP rings 6).bnd fun m => (ringsPr m refs []).bnd fun r => facesPr k (rings - m) r.1 (acc ++ [r.2])
def netPr : Prs NetP := (upP 65536 6).bnd fun c => (arcsP c (0, 0) 65536 []).bnd fun s => (upP 32 6).bnd fun f => (facesPr f 64 65536 []).bnd fun t => .ret (s.2.2, t.2.2)
def ptNums : Pt → List Pt → List Nat
  | _, [] => []
  | p, q :: l => zig (q.1 - p.1) :: zig (q.2 - p.2) :: ptNums q l
def lastPt : Pt → List Pt → Pt
  | p, [] => p
  | _, q :: l => lastPt q l
def arcNums : Pt → List ArcT → List Nat
  | _, [] => []
  | p, a :: l => a.2.1.toNat :: a.2.2.toNat :: a.1.length :: (ptNums p a.1 ++ arcNums (lastPt p a.1) l)
def lastArc : Pt → List ArcT → Pt
  | p, [] => p
  | p, a :: l => lastArc (lastPt p a.1) l
def ringNums : List (List Int) → List Nat
  | [] => []
  | r :: l => r.length :: (r.map zig ++ ringNums l)
def faceNums : List (List (List Int)) → List Nat
  | [] => []
  | f :: l => f.length :: (ringNums f ++ faceNums l)
def numbers (n : NetP) : List Nat := n.1.length :: (arcNums (0, 0) n.1 ++ (n.2.length :: faceNums n.2))
theorem zag_zig (n : Int) : zagN (zig n) = n := by
  unfold zagN zig
  split <;> split <;> omega
theorem zig_zag (x : Nat) : zig (zagN x) = x := by
  unfold zagN zig
  split <;> split <;> omega
theorem up_iff {g : Nat} {e : Int} {xs : List Nat} {k : Nat} : eat (upP g e) xs = some k ↔ xs = [k] ∧ k ≤ g := by
  unfold upP
  constructor
  · intro h
    match xs, h with
    | x :: xs, h =>
      have h : eat (if x ≤ g then Prs.ret x else .err e) xs = some k := h
      split at h
      · rename_i hx
        cases xs with
        | nil => injection h with h; subst h; exact ⟨rfl, hx⟩
        | cons y ys => cases h
      · cases h
  · rintro ⟨rfl, h⟩
    show eat (if k ≤ g then Prs.ret k else .err e) [] = some k
    rw [if_pos h]; rfl
theorem turn_iff {f lo hi v : Int} {xs : List Nat} (hf : -16777216 ≤ f ∧ f ≤ 16777216) (hlo : -16777216 ≤ lo) (hhi : hi ≤ 16777216) : eat (turnP f lo hi) xs = some v ↔ xs = [zig (v - f)] ∧ lo ≤ v ∧ v ≤ hi := by
  unfold turnP
  constructor
  · intro h
    match xs, h with
    | x :: xs, h =>
      have h : eat (if -4294967296 ≤ zagN x ∧ zagN x ≤ 4294967296 ∧ lo ≤ f + zagN x ∧ f + zagN x ≤ hi then Prs.ret (f + zagN x) else .err 5) xs = some v := h
      split at h
      · rename_i hx
        cases xs with
        | nil =>
          injection h with h
          subst h
          rw [show f + zagN x - f = zagN x by omega, zig_zag]
          exact ⟨rfl, hx.2.2⟩
        | cons y ys => cases h
      · cases h
  · rintro ⟨rfl, h1, h2⟩
    show eat (if -4294967296 ≤ zagN (zig (v - f)) ∧ zagN (zig (v - f)) ≤ 4294967296 ∧ lo ≤ f + zagN (zig (v - f)) ∧ f + zagN (zig (v - f)) ≤ hi then Prs.ret (f + zagN (zig (v - f))) else .err 5) [] = some v
    rw [zag_zig, if_pos (by omega), show f + (v - f) = v by omega]; rfl
theorem may_iff (p : Pt) : mayP p = true ↔ (-16777216 ≤ p.1 ∧ p.1 ≤ 16777216) ∧ (-16777216 ≤ p.2 ∧ p.2 ≤ 16777216) := by
  unfold mayP; simp only [Bool.and_eq_true, decide_eq_true_eq]
theorem last_may : ∀ (l : List Pt) (p : Pt), mayP p = true → l.all mayP = true → mayP (lastPt p l) = true
  | [], p, h, _ => h
  | q :: l, p, _, h => by
    rw [List.all_cons, Bool.and_eq_true] at h
    exact last_may l q h.1 h.2
theorem pts_iff : ∀ (k : Nat) (p : Pt) (acc : List Pt) (xs : List Nat) (r : Pt × List Pt), mayP p = true → (eat (ptsP k p acc) xs = some r ↔ ∃ l, l.length = k ∧ l.all mayP = true ∧ xs = ptNums p l ∧ r = (lastPt p l, acc ++ l))
  | 0, p, acc, xs, r, hp => by
    constructor
    · intro h
      cases xs with
      | nil => injection h with h; exact ⟨[], rfl, rfl, rfl, by rw [← h, List.append_nil]; rfl⟩
      | cons y ys => cases h
    · rintro ⟨l, hl, _, rfl, rfl⟩
      obtain rfl := List.length_eq_zero_iff.1 hl
      rw [List.append_nil]; rfl
  | k + 1, p, acc, xs, r, hp => by
    have hp' := (may_iff p).1 hp
    rw [ptsP, eat_bnd]
    constructor
    · rintro ⟨x, ys, zs, rfl, h1, h2⟩
      obtain ⟨rfl, hx⟩ := (turn_iff hp'.1 (by omega) (by omega)).1 h1
      obtain ⟨y, us, vs, rfl, h3, h4⟩ := (eat_bnd _ _ _ _).1 h2
      obtain ⟨rfl, hy⟩ := (turn_iff hp'.2 (by omega) (by omega)).1 h3
      have hm : mayP (x, y) = true := (may_iff _).2 ⟨hx, hy⟩
      obtain ⟨l, e1, e2, rfl, rfl⟩ := (pts_iff k (x, y) _ _ r hm).1 h4
      exact ⟨(x, y) :: l, by simp [e1], by rw [List.all_cons, hm, e2]; rfl, rfl, by rw [List.append_assoc]; rfl⟩
    · rintro ⟨l, e1, e2, rfl, rfl⟩
      cases l with
      | nil => simp at e1
      | cons q l =>
        rw [List.all_cons, Bool.and_eq_true] at e2
        have hq := (may_iff q).1 e2.1
        refine ⟨q.1, [zig (q.1 - p.1)], _, rfl, (turn_iff hp'.1 (by omega) (by omega)).2 ⟨rfl, hq.1⟩, (eat_bnd _ _ _ _).2 ⟨q.2, [zig (q.2 - p.2)], _, rfl, (turn_iff hp'.2 (by omega) (by omega)).2 ⟨rfl, hq.2⟩, (pts_iff k (q.1, q.2) _ _ _ e2.1).2 ⟨l, by simpa using e1, e2.2, rfl, by rw [List.append_assoc]; rfl⟩⟩⟩
theorem side_nat {n : Nat} (h : n ≤ 32) : sideP (n : Int) = true := by
  unfold sideP; simp only [Bool.and_eq_true, decide_eq_true_eq]; omega
theorem side_iff (n : Int) : sideP n = true ↔ 0 ≤ n ∧ n ≤ 32 := by
  unfold sideP; simp only [Bool.and_eq_true, decide_eq_true_eq]
theorem pointsL_cons (a : ArcT) (l : List ArcT) : pointsL (a :: l) = a.1.length + pointsL l := rfl
theorem arcP_iff (a : ArcT) : arcP a = true ↔ sideP a.2.1 = true ∧ sideP a.2.2 = true ∧ a.1.all mayP = true := by
  unfold arcP; simp only [Bool.and_eq_true, and_assoc]
theorem arcs_iff : ∀ (k : Nat) (p : Pt) (pts : Nat) (acc : List ArcT) (xs : List Nat) (r : Pt × Nat × List ArcT), mayP p = true → (eat (arcsP k p pts acc) xs = some r ↔ ∃ l, l.length = k ∧ l.all arcP = true ∧ pointsL l ≤ pts ∧ xs = arcNums p l ∧ r = (lastArc p l, pts - pointsL l, acc ++ l))
  | 0, p, pts, acc, xs, r, hp => by
    constructor
    · intro h
      cases xs with
      | nil => injection h with h; exact ⟨[], rfl, rfl, Nat.zero_le _, rfl, by rw [← h, List.append_nil]; rfl⟩
      | cons y ys => cases h
    · rintro ⟨l, hl, _, _, rfl, rfl⟩
      obtain rfl := List.length_eq_zero_iff.1 hl
      rw [List.append_nil]; rfl
  | k + 1, p, pts, acc, xs, r, hp => by
    rw [arcsP, eat_bnd]
    constructor
    · rintro ⟨lt, ys, zs, rfl, h1, h2⟩
      obtain ⟨rfl, hlt⟩ := up_iff.1 h1
      obtain ⟨rt, us, vs, rfl, h3, h4⟩ := (eat_bnd _ _ _ _).1 h2
      obtain ⟨rfl, hrt⟩ := up_iff.1 h3
      obtain ⟨m, as, bs, rfl, h5, h6⟩ := (eat_bnd _ _ _ _).1 h4
      obtain ⟨rfl, hm⟩ := up_iff.1 h5
      obtain ⟨q, cs, ds, rfl, h7, h8⟩ := (eat_bnd _ _ _ _).1 h6
      obtain ⟨l, e1, e2, rfl, rfl⟩ := (pts_iff m p [] cs q hp).1 h7
      obtain ⟨A, f1, f2, f3, rfl, rfl⟩ := (arcs_iff k _ _ _ _ r (last_may l p hp e2)).1 h8
      refine ⟨(l, (lt : Int), (rt : Int)) :: A, by simp [f1], ?_, ?_, ?_, ?_⟩
      · rw [List.all_cons, f2, Bool.and_true, arcP_iff]; exact ⟨side_nat hlt, side_nat hrt, e2⟩
      · rw [pointsL_cons]; dsimp only; omega
      · rw [arcNums]
        dsimp only
        rw [Int.toNat_natCast, Int.toNat_natCast, e1]; rfl
      · rw [pointsL_cons, List.append_assoc]
        dsimp only [List.nil_append]
        rw [lastArc, show pts - m - pointsL A = pts - (l.length + pointsL A) by omega]; rfl
    · rintro ⟨l, e1, e2, e3, rfl, rfl⟩
      cases l with
      | nil => simp at e1
      | cons a l =>
        rw [List.all_cons, Bool.and_eq_true] at e2
        obtain ⟨a1, a2, a3⟩ := (arcP_iff a).1 e2.1
        rw [pointsL_cons] at e3
        have b1 := (side_iff _).1 a1
        have b2 := (side_iff _).1 a2
        refine ⟨a.2.1.toNat, [a.2.1.toNat], _, rfl, up_iff.2 ⟨rfl, by omega⟩, (eat_bnd _ _ _ _).2 ⟨a.2.2.toNat, [a.2.2.toNat], _, rfl, up_iff.2 ⟨rfl, by omega⟩, (eat_bnd _ _ _ _).2 ⟨a.1.length, [a.1.length], _, rfl, up_iff.2 ⟨rfl, by omega⟩, (eat_bnd _ _ _ _).2 ⟨(lastPt p a.1, a.1), ptNums p a.1, _, rfl, (pts_iff _ p [] _ _ hp).2 ⟨a.1, rfl, a3, rfl, rfl⟩, ?_⟩⟩⟩⟩
        refine (arcs_iff k _ _ _ _ _ (last_may a.1 p hp a3)).2 ⟨l, by simpa using e1, e2.2, by omega, rfl, ?_⟩
        rw [pointsL_cons, lastArc, List.append_assoc, show pts - a.1.length - pointsL l = pts - (a.1.length + pointsL l) by omega, Int.toNat_of_nonneg b1.1, Int.toNat_of_nonneg b2.1]; rfl
theorem ref_iff (n : Int) : refP n = true ↔ -65536 ≤ n ∧ n ≤ 65536 := by
  unfold refP; simp only [Bool.and_eq_true, decide_eq_true_eq]
theorem refs_iff : ∀ (k : Nat) (acc : List Int) (xs : List Nat) (r : List Int), eat (refsPr k acc) xs = some r ↔ ∃ l, l.length = k ∧ l.all refP = true ∧ xs = l.map zig ∧ r = acc ++ l
  | 0, acc, xs, r => by
    constructor
    · intro h
      cases xs with
      | nil => injection h with h; exact ⟨[], rfl, rfl, rfl, by rw [← h, List.append_nil]⟩
      | cons y ys => cases h
    · rintro ⟨l, hl, _, rfl, rfl⟩
      obtain rfl := List.length_eq_zero_iff.1 hl
      rw [List.append_nil]; rfl
  | k + 1, acc, xs, r => by
    rw [refsPr, eat_bnd]
    constructor
    · rintro ⟨x, ys, zs, rfl, h1, h2⟩
      obtain ⟨rfl, hx⟩ := (turn_iff (by omega) (by omega) (by omega)).1 h1
      obtain ⟨l, e1, e2, rfl, rfl⟩ := (refs_iff k _ _ r).1 h2
      exact ⟨x :: l, by simp [e1], by rw [List.all_cons, e2, (ref_iff x).2 hx]; rfl, by rw [List.map_cons, Int.sub_zero]; rfl, by rw [List.append_assoc]; rfl⟩
    · rintro ⟨l, e1, e2, rfl, rfl⟩
      cases l with
      | nil => simp at e1
      | cons q l =>
        rw [List.all_cons, Bool.and_eq_true] at e2
        exact ⟨q, [zig (q - 0)], l.map zig, by rw [Int.sub_zero]; rfl, (turn_iff (by omega) (by omega) (by omega)).2 ⟨rfl, (ref_iff q).1 e2.1⟩, (refs_iff k _ _ _).2 ⟨l, by simpa using e1, e2.2, rfl, by rw [List.append_assoc]; rfl⟩⟩
theorem refsN_cons (a : List Int) (l : List (List Int)) : refsN (a :: l) = a.length + refsN l := rfl
theorem rings_iff : ∀ (k refs : Nat) (acc : List (List Int)) (xs : List Nat) (r : Nat × List (List Int)), eat (ringsPr k refs acc) xs = some r ↔ ∃ l, l.length = k ∧ l.all (fun q => q.all refP) = true ∧ refsN l ≤ refs ∧ xs = ringNums l ∧ r = (refs - refsN l, acc ++ l)
  | 0, refs, acc, xs, r => by
    constructor
    · intro h
      cases xs with
      | nil => injection h with h; exact ⟨[], rfl, rfl, Nat.zero_le _, rfl, by rw [← h, List.append_nil]; rfl⟩
      | cons y ys => cases h
    · rintro ⟨l, hl, _, _, rfl, rfl⟩
      obtain rfl := List.length_eq_zero_iff.1 hl
      rw [List.append_nil]; rfl
  | k + 1, refs, acc, xs, r => by
    rw [ringsPr, eat_bnd]
    constructor
    · rintro ⟨m, ys, zs, rfl, h1, h2⟩
      obtain ⟨rfl, hm⟩ := up_iff.1 h1
      obtain ⟨q, us, vs, rfl, h3, h4⟩ := (eat_bnd _ _ _ _).1 h2
      obtain ⟨l, e1, e2, rfl, hq⟩ := (refs_iff m [] us q).1 h3
      rw [List.nil_append] at hq
      subst hq
      obtain ⟨A, f1, f2, f3, rfl, rfl⟩ := (rings_iff k _ _ _ r).1 h4
      refine ⟨q :: A, by simp [f1], by rw [List.all_cons, e2, f2]; rfl, by rw [refsN_cons]; omega, by rw [ringNums, e1]; rfl, ?_⟩
      rw [refsN_cons, List.append_assoc, show refs - m - refsN A = refs - (q.length + refsN A) by omega]; rfl
    · rintro ⟨l, e1, e2, e3, rfl, rfl⟩
      cases l with
      | nil => simp at e1
      | cons q l =>
        rw [List.all_cons, Bool.and_eq_true] at e2
        rw [refsN_cons] at e3
        refine ⟨q.length, [q.length], _, rfl, up_iff.2 ⟨rfl, by omega⟩, (eat_bnd _ _ _ _).2 ⟨q, q.map zig, _, rfl, (refs_iff _ [] _ _).2 ⟨q, rfl, e2.1, rfl, rfl⟩, (rings_iff k _ _ _ _).2 ⟨l, by simpa using e1, e2.2, by omega, rfl, ?_⟩⟩⟩
        rw [refsN_cons, List.append_assoc, show refs - q.length - refsN l = refs - (q.length + refsN l) by omega]; rfl
theorem ringsN_cons (a : List (List Int)) (l : List (List (List Int))) : ringsN (a :: l) = a.length + ringsN l := rfl
theorem refsNN_cons (a : List (List Int)) (l : List (List (List Int))) : refsNN (a :: l) = refsN a + refsNN l := rfl
theorem faces_iff : ∀ (k rings refs : Nat) (acc : List (List (List Int))) (xs : List Nat) (r : Nat × Nat × List (List (List Int))), eat (facesPr k rings refs acc) xs = some r ↔ ∃ l, l.length = k ∧ l.all (fun f => f.all fun q => q.all refP) = true ∧ ringsN l ≤ rings ∧ refsNN l ≤ refs ∧ xs = faceNums l ∧ r = (rings - ringsN l, refs - refsNN l, acc ++ l)
  | 0, rings, refs, acc, xs, r => by
    constructor
    · intro h
      cases xs with
      | nil => injection h with h; exact ⟨[], rfl, rfl, Nat.zero_le _, Nat.zero_le _, rfl, by rw [← h, List.append_nil]; rfl⟩
      | cons y ys => cases h
    · rintro ⟨l, hl, _, _, _, rfl, rfl⟩
      obtain rfl := List.length_eq_zero_iff.1 hl
      rw [List.append_nil]; rfl
  | k + 1, rings, refs, acc, xs, r => by
    rw [facesPr, eat_bnd]
    constructor
    · rintro ⟨m, ys, zs, rfl, h1, h2⟩
      obtain ⟨rfl, hm⟩ := up_iff.1 h1
      obtain ⟨q, us, vs, rfl, h3, h4⟩ := (eat_bnd _ _ _ _).1 h2
      obtain ⟨l, e1, e2, e3, rfl, rfl⟩ := (rings_iff m refs [] us q).1 h3
      obtain ⟨A, f1, f2, f3, f4, rfl, rfl⟩ := (faces_iff k _ _ _ _ r).1 h4
      dsimp only at f4
      refine ⟨l :: A, by simp [f1], by rw [List.all_cons, e2, f2]; rfl, by rw [ringsN_cons]; omega, by rw [refsNN_cons]; omega, by rw [faceNums, e1]; rfl, ?_⟩
      rw [ringsN_cons, refsNN_cons, List.append_assoc, show rings - m - ringsN A = rings - (l.length + ringsN A) by omega]
      dsimp only
      rw [show refs - refsN l - refsNN A = refs - (refsN l + refsNN A) by omega]; rfl
    · rintro ⟨l, e1, e2, e3, e4, rfl, rfl⟩
      cases l with
      | nil => simp at e1
      | cons q l =>
        rw [List.all_cons, Bool.and_eq_true] at e2
        rw [ringsN_cons] at e3
        rw [refsNN_cons] at e4
        refine ⟨q.length, [q.length], _, rfl, up_iff.2 ⟨rfl, by omega⟩, (eat_bnd _ _ _ _).2 ⟨(refs - refsN q, q), ringNums q, _, rfl, (rings_iff _ _ [] _ _).2 ⟨q, rfl, e2.1, by omega, rfl, rfl⟩, (faces_iff k _ _ _ _ _).2 ⟨l, by simpa using e1, e2.2, by omega, by dsimp only; omega, rfl, ?_⟩⟩⟩
        rw [ringsN_cons, refsNN_cons, List.append_assoc, show rings - q.length - ringsN l = rings - (q.length + ringsN l) by omega]
        dsimp only
        rw [show refs - refsN q - refsNN l = refs - (refsN q + refsNN l) by omega]; rfl
theorem check_iff (n : NetP) : checkP n = 0 ↔ n.1.length ≤ 65536 ∧ pointsL n.1 ≤ 65536 ∧ n.2.length ≤ 32 ∧ ringsN n.2 ≤ 64 ∧ refsNN n.2 ≤ 65536 ∧ n.1.all arcP = true ∧ refsP n = true := by
  have hm : manyP n = true ↔ 65536 < n.1.length ∨ 65536 < pointsL n.1 ∨ 32 < n.2.length ∨ 64 < ringsN n.2 ∨ 65536 < refsNN n.2 := by
    unfold manyP
    simp only [Bool.or_eq_true, decide_eq_true_eq, or_assoc]; rfl
  unfold checkP
  by_cases h : manyP n = true
  · rw [if_pos h]
    have := hm.1 h
    constructor
    · intro h'; cases h'
    · intro h'; omega
  · rw [if_neg h]
    have h' : ¬ _ := fun h' => h (hm.2 h')
    by_cases h2 : (n.1.all arcP && refsP n) = true
    · rw [if_pos h2]
      rw [Bool.and_eq_true] at h2
      exact ⟨fun _ => ⟨by omega, by omega, by omega, by omega, by omega, h2.1, h2.2⟩, fun _ => rfl⟩
    · rw [if_neg h2]
      constructor
      · intro h3; cases h3
      · intro h3; exact (h2 (by rw [h3.2.2.2.2.2.1, h3.2.2.2.2.2.2]; rfl)).elim
theorem net_iff (xs : List Nat) (n : NetP) : eat netPr xs = some n ↔ checkP n = 0 ∧ xs = numbers n := by
  unfold netPr
  rw [eat_bnd, check_iff]
  constructor
  · rintro ⟨c, ys, zs, rfl, h1, h2⟩
    obtain ⟨rfl, hc⟩ := up_iff.1 h1
    obtain ⟨s, us, vs, rfl, h3, h4⟩ := (eat_bnd _ _ _ _).1 h2
    obtain ⟨A, a1, a2, a3, rfl, rfl⟩ := (arcs_iff c (0, 0) 65536 [] us s (by decide)).1 h3
    obtain ⟨f, as, bs, rfl, h5, h6⟩ := (eat_bnd _ _ _ _).1 h4
    obtain ⟨rfl, hf⟩ := up_iff.1 h5
    obtain ⟨t, cs, ds, rfl, h7, h8⟩ := (eat_bnd _ _ _ _).1 h6
    obtain ⟨F, b1, b2, b3, b4, rfl, rfl⟩ := (faces_iff f 64 65536 [] cs t).1 h7
    cases ds with
    | cons y ys => cases h8
    | nil =>
      injection h8 with h8
      subst h8
      dsimp only [List.nil_append]
      refine ⟨⟨by omega, a3, by omega, b3, b4, a2, b2⟩, ?_⟩
      unfold numbers
      rw [a1, b1, List.append_nil]; rfl
  · rintro ⟨⟨h1, h2, h3, h4, h5, h6, h7⟩, rfl⟩
    refine ⟨n.1.length, [n.1.length], _, rfl, up_iff.2 ⟨rfl, h1⟩, (eat_bnd _ _ _ _).2 ⟨_, arcNums (0, 0) n.1, _, rfl, (arcs_iff _ (0, 0) 65536 [] _ _ (by decide)).2 ⟨n.1, rfl, h6, h2, rfl, rfl⟩, (eat_bnd _ _ _ _).2 ⟨n.2.length, [n.2.length], _, rfl, up_iff.2 ⟨rfl, h3⟩, (eat_bnd _ _ _ _).2 ⟨_, faceNums n.2, [], by rw [List.append_nil], (faces_iff _ 64 65536 [] _ _).2 ⟨n.2, rfl, h7, h4, h5, rfl, rfl⟩, rfl⟩⟩⟩⟩
theorem pts_cat : ∀ (l : List Pt) (out : List Int) (p : Pt), l.foldl stepPt (out, p) = (out ++ cat (ptNums p l), lastPt p l)
  | [], out, p => by simp [ptNums, cat, lastPt]
  | q :: l, out, p => by
    rw [List.foldl_cons, stepPt, pts_cat l, ptNums, cat_cons, cat_cons, lastPt]
    simp [List.append_assoc]
theorem arcs_cat : ∀ (l : List ArcT) (out : List Int) (p : Pt), l.foldl stepArc (out, p) = (out ++ cat (arcNums p l), lastArc p l)
  | [], out, p => by simp [arcNums, cat, lastArc]
  | a :: l, out, p => by
    rw [List.foldl_cons, stepArc, pts_cat, arcs_cat l, arcNums, cat_cons, cat_cons, cat_cons, cat_app, lastArc]
    simp [List.append_assoc]
theorem refs_cat : ∀ (l : List Int) (out : List Int), l.foldl stepRef out = out ++ cat (l.map zig)
  | [], out => by simp [cat]
  | q :: l, out => by
    rw [List.foldl_cons, stepRef, refs_cat l, List.map_cons, cat_cons, List.append_assoc]
theorem rings_cat : ∀ (l : List (List Int)) (out : List Int), l.foldl stepRing out = out ++ cat (ringNums l)
  | [], out => by simp [cat, ringNums]
  | q :: l, out => by
    rw [List.foldl_cons, stepRing, refs_cat, rings_cat l, ringNums, cat_cons, cat_app]
    simp [List.append_assoc]
theorem faces_cat : ∀ (l : List (List (List Int))) (out : List Int), l.foldl stepFace out = out ++ cat (faceNums l)
  | [], out => by simp [cat, faceNums]
  | q :: l, out => by
    rw [List.foldl_cons, stepFace, rings_cat, faces_cat l, faceNums, cat_cons, cat_app]
    simp [List.append_assoc]
theorem bytes_cat (n : NetP) : bytesP n = cat (numbers n) := by
  unfold bytesP arcsB numbers
  rw [arcs_cat, faces_cat, cat_cons, cat_app, cat_cons]
  simp [List.append_assoc]
end Go.Proofs.Ytaobbaohelpdgaa.Pl
