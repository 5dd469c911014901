import Derived.Test.YtoccfdohlefifaaP18c
namespace Go.Proofs.Ytoccfdohlefifaa.Pl
set_option maxRecDepth 4000
abbrev Gd := Idx × List Int × List Pt × List (Pt × Bool) × List ((Pt × Pt) × Bool)
abbrev Ar := List Pt × Int × Int
def pb (l : List Pt) : List Bx := l.map fun p => (p, p)
theorem pb_len (l : List Pt) : (pb l).length = l.length := by simp [pb]
theorem pb_get (l : List Pt) {i : Nat} (h : i < l.length) : (pb l).getD i default = (l.getD i (0, 0), l.getD i (0, 0)) := by
  unfold pb
  rw [List.getD_eq_getElem?_getD, List.getElem?_map, List.getElem?_eq_getElem h, List.getD_eq_getElem?_getD, List.getElem?_eq_getElem h]; rfl
def btw (a b : Pt) : Pt × Pt := if b.1 < a.1 ∨ (b.1 = a.1 ∧ b.2 < a.2) then (b, a) else (a, b)
theorem between_eq (a b : Pt) : guard_between a b = some (btw a b) := by
  unfold guard_between btw
  rw [Less_eq, bind_some']
  by_cases h : b.1 < a.1 ∨ (b.1 = a.1 ∧ b.2 < a.2)
  · rw [decide_eq_true h, if_pos rfl, if_pos h]
  · rw [decide_eq_false h, if_neg (by decide), if_neg h]
theorem btw_sym (a b : Pt) : btw a b = btw b a := by
  unfold btw
  by_cases h : b.1 < a.1 ∨ (b.1 = a.1 ∧ b.2 < a.2)
  · rw [if_pos h, if_neg (by omega)]
  · by_cases h2 : a.1 < b.1 ∨ (a.1 = b.1 ∧ a.2 < b.2)
    · rw [if_neg h, if_pos h2]
    · rw [if_neg h, if_neg h2]
      have e : a = b := Prod.ext (by omega) (by omega)
      rw [e]
section
variable {K : Type} [DecidableEq K]
def hasM (D : List (K × Bool)) (k : K) : Bool := (lkM D k).getD false
theorem hasM_up (D : List (K × Bool)) (k x : K) : hasM (upM D k true) x = if x = k then true else hasM D x := by
  unfold hasM
  have : ∀ D : List (K × Bool), lkM (upM D k true) x = if x = k then some true else lkM D x := by
    intro D
    induction D with
    | nil => rfl
    | cons p r ih =>
      unfold upM
      by_cases h : k = p.1
      · rw [if_pos h]
        unfold lkM
        by_cases hx : x = k
        · rw [if_pos hx, if_pos hx]
        · rw [if_neg hx, if_neg hx, if_neg (by rw [← h]; exact hx)]
      · rw [if_neg h]
        unfold lkM
        by_cases hx : x = p.1
        · rw [if_pos hx, if_neg (fun h' => h (h'.symm.trans hx)), if_pos hx]
        · rw [if_neg hx, ih, if_neg hx]
  rw [this]; split <;> rfl
theorem up_keys_mem {V : Type} : ∀ (D : List (K × V)) (k : K) (v : V) (x : K), x ∈ (upM D k v).map (·.1) ↔ x = k ∨ x ∈ D.map (·.1)
  | [], k, v, x => by simp [upM]
  | p :: r, k, v, x => by
    unfold upM
    by_cases h : k = p.1
    · rw [if_pos h]; simp [h]
    · rw [if_neg h]
      simp only [List.map_cons, List.mem_cons, up_keys_mem r k v x]
      constructor
      · rintro (h | h | h)
        · exact .inr (.inl h)
        · exact .inl h
        · exact .inr (.inr h)
      · rintro (h | h | h)
        · exact .inr (.inl h)
        · exact .inl h
        · exact .inr (.inr h)
theorem up_nodup {V : Type} : ∀ {D : List (K × V)} {k : K} {v : V}, (D.map (·.1)).Nodup → ((upM D k v).map (·.1)).Nodup
  | [], k, v, _ => by simp [upM]
  | p :: r, k, v, h => by
    simp only [List.map_cons, List.nodup_cons] at h
    unfold upM
    by_cases hk : k = p.1
    · rw [if_pos hk]; simp only [List.map_cons, List.nodup_cons]; rw [hk]; exact h
    · rw [if_neg hk]
      simp only [List.map_cons, List.nodup_cons]
      exact ⟨fun hm => (up_keys_mem r k v p.1).1 hm |>.elim (fun e => hk e.symm) h.1, up_nodup h.2⟩
theorem de_nodup {V : Type} : ∀ {D : List (K × V)} {k : K}, (D.map (·.1)).Nodup → ((deM D k).map (·.1)).Nodup
  | [], k, _ => by simp [deM]
  | p :: r, k, h => by
    have h' := h
    simp only [List.map_cons, List.nodup_cons] at h
    unfold deM
    by_cases hk : k = p.1
    · rw [if_pos hk]; exact h.2
    · rw [if_neg hk]
      simp only [List.map_cons, List.nodup_cons]
      refine ⟨fun hm => h.1 ?_, de_nodup h.2⟩
      have : ∀ (r : List (K × V)) (k x : K), x ∈ (deM r k).map (·.1) → x ∈ r.map (·.1) := by
        intro r k x
        induction r with
        | nil => intro h; simp [deM] at h
        | cons q r ih =>
          unfold deM
          split
          · intro h; simp only [List.map_cons, List.mem_cons]; exact .inr h
          · intro h
            simp only [List.map_cons, List.mem_cons] at h ⊢
            exact h.imp id ih
      exact this r k p.1 hm
end
def putP (g : Gd) (p : Pt) : Gd := if hasM g.2.2.2.1 p = true then g else (addB g.1 (p, p), g.2.1, g.2.2.1 ++ [p], upM g.2.2.2.1 p true, g.2.2.2.2)
def putE (g : Gd) (q p : Pt) : Gd := if q = p then g else (g.1, g.2.1, g.2.2.1, g.2.2.2.1, upM g.2.2.2.2 (btw q p) true)
def stepK (l : List Pt) (g : Gd) (k : Nat) : Gd := if 0 < k then putE (putP g (l.getD k (0, 0))) (l.getD (k - 1) (0, 0)) (l.getD k (0, 0)) else putP g (l.getD k (0, 0))
def arcG (g : Gd) (a : Ar) : Gd := (List.range a.1.length).foldl (stepK a.1) g
def newG (lines : List Int) (l : List Ar) : Gd := l.foldl arcG (([], [], []), lines, [], [], [])
structure GI (g : Gd) (L : List Int) (n : Nat) : Prop where
  idx : Inv g.1 (pb g.2.2.1)
  len : g.2.2.1.length ≤ n
  lin : g.2.1 = L
  tnd : (g.2.2.2.1.map (·.1)).Nodup
  ende : (g.2.2.2.2.map (·.1)).Nodup
theorem GI.more {g : Gd} {L : List Int} {n m : Nat} (h : GI g L n) (hm : n ≤ m) : GI g L m := ⟨h.idx, Nat.le_trans h.len hm, h.lin, h.tnd, h.ende⟩
theorem GI.putP {g : Gd} {L : List Int} {n : Nat} (h : GI g L n) (p : Pt) : GI (putP g p) L (n + 1) := by
  unfold Pl.putP
  split
  · exact h.more (by omega)
  · refine ⟨?_, by simp only [List.length_append, List.length_singleton]; have := h.len; omega, h.lin, up_nodup h.tnd, h.ende⟩
    have := h.idx.add (p, p)
    simp only [pb, List.map_append, List.map_cons, List.map_nil] at this ⊢
    exact this
theorem GI.putE {g : Gd} {L : List Int} {n : Nat} (h : GI g L n) (q p : Pt) : GI (putE g q p) L n := by
  unfold Pl.putE
  split
  · exact h
  · exact ⟨h.idx, h.len, h.lin, h.tnd, up_nodup h.ende⟩
theorem GI.stepK {g : Gd} {L : List Int} {n : Nat} (h : GI g L n) (l : List Pt) (k : Nat) : GI (stepK l g k) L (n + 1) := by
  unfold Pl.stepK
  split
  · exact (h.putP _).putE _ _
  · exact h.putP _
theorem GI.range {g : Gd} {L : List Int} {n : Nat} (h : GI g L n) (l : List Pt) : ∀ k : Nat, GI ((List.range k).foldl (Pl.stepK l) g) L (n + k)
  | 0 => h
  | k + 1 => by
    rw [List.range_succ, List.foldl_append]
    exact (GI.range h l k).stepK l k
theorem k4_eq (x : Int) (a : Ar) (g : Gd) (k : Nat) (hk : k < a.1.length) (hl : a.1.length ≤ 1000) (y1 : List Bx) (y2 : List (Pt × List Int)) (y3 : List Int) (y4 : List Pt) (y5 : List (Pt × Bool)) (E : List ((Pt × Pt) × Bool)) :
    guard_New_k4 a E (k : Int) (a.1.getD k (0, 0)) y1 y2 y3 y4 y5 = some (.inl (y1, y2, y3, y4, y5, (if 0 < k ∧ a.1.getD (k - 1) (0, 0) ≠ a.1.getD k (0, 0) then upM E (btw (a.1.getD (k - 1) (0, 0)) (a.1.getD k (0, 0))) true else E), ((k + 1 : Nat) : Int))) := by
  unfold guard_New_k4 guard_New_k3
  by_cases h0 : 0 < k
  · rw [decide_eq_true (show (0 : Int) < (k : Int) by omega), gd_true, sb_one (by omega) h0, ix_getD (0, 0) (show k - 1 < a.1.length by omega), bind_some', bind_some']
    by_cases he : a.1.getD (k - 1) (0, 0) = a.1.getD k (0, 0)
    · rw [decide_eq_true he, if_neg (by decide), if_neg (fun h => h.2 he), ad_one (by omega)]
    · rw [decide_eq_false he, if_pos (by decide), if_pos ⟨h0, he⟩, bind_some', between_eq, bind_some', bind_some', ad_one (by omega)]
  · rw [decide_eq_false (show ¬ (0 : Int) < (k : Int) by omega), gd_false, bind_some', bind_some', Bool.false_and, if_neg (by decide), if_neg (fun h => h0 h.1), ad_one (by omega)]
theorem flat_if (g : Gd) (k : Nat) (q p : Pt) (kk : Int) : (g.1.1, g.1.2.1, g.1.2.2, g.2.2.1, g.2.2.2.1, (if 0 < k ∧ q ≠ p then upM g.2.2.2.2 (btw q p) true else g.2.2.2.2), kk) =
    ((if 0 < k then putE g q p else g).1.1, (if 0 < k then putE g q p else g).1.2.1, (if 0 < k then putE g q p else g).1.2.2, (if 0 < k then putE g q p else g).2.2.1, (if 0 < k then putE g q p else g).2.2.2.1, (if 0 < k then putE g q p else g).2.2.2.2, kk) := by
  by_cases h0 : 0 < k
  · by_cases h1 : q = p
    · rw [if_neg (fun h => h.2 h1), if_pos h0]
      have e : putE g q p = g := by unfold putE; rw [if_pos h1]
      rw [e]
    · rw [if_pos ⟨h0, h1⟩, if_pos h0]
      have e : putE g q p = (g.1, g.2.1, g.2.2.1, g.2.2.2.1, upM g.2.2.2.2 (btw q p) true) := by unfold putE; rw [if_neg h1]
      rw [e]
  · rw [if_neg (fun h => h0 h.1), if_neg h0]
theorem step_eq (x : Int) (a : Ar) {g : Gd} {L : List Int} {n : Nat} (h : GI g L n) (hn : n < 900) (k : Nat) (hk : k < a.1.length) (hl : a.1.length ≤ 1000) :
    guard_New_b2 x a g.1.1 g.1.2.1 g.1.2.2 g.2.2.1 g.2.2.2.1 g.2.2.2.2 (k : Int) = some (.inl ((stepK a.1 g k).1.1, (stepK a.1 g k).1.2.1, (stepK a.1 g k).1.2.2, (stepK a.1 g k).2.2.1, (stepK a.1 g k).2.2.2.1, (stepK a.1 g k).2.2.2.2, ((k + 1 : Nat) : Int))) := by
  unfold guard_New_b2
  rw [dlt hk, if_pos rfl, ix_getD (0, 0) hk, bind_some']
  by_cases hh : hasM g.2.2.2.1 (a.1.getD k (0, 0)) = true
  · rw [show (!((lkM g.2.2.2.1 (a.1.getD k (0, 0))).getD false)) = false by rw [show (lkM g.2.2.2.1 (a.1.getD k (0, 0))).getD false = true from hh]; rfl, if_neg (by decide), k4_eq x a g k hk hl]
    have e : stepK a.1 g k = if 0 < k then putE g (a.1.getD (k - 1) (0, 0)) (a.1.getD k (0, 0)) else g := by
      unfold stepK putP
      rw [if_pos hh]
    rw [e]
    exact congrArg (fun t => some (Sum.inl t)) (flat_if g k _ _ _)
  · rw [Bool.not_eq_true] at hh
    have hlen := h.len
    rw [show (!((lkM g.2.2.2.1 (a.1.getD k (0, 0))).getD false)) = true by rw [show (lkM g.2.2.2.1 (a.1.getD k (0, 0))).getD false = false from hh]; rfl, if_pos rfl, bind_some', app_le (by simp only [List.length_cons, List.length_nil]; omega), bind_some']
    show (rows_Index_Add g.1 [(a.1.getD k (0, 0), a.1.getD k (0, 0))]).bind _ = _
    rw [Add_eq h.idx _ (by rw [pb_len]; simp; omega), bind_some', k4_eq x a g k hk hl]
    have e : stepK a.1 g k = if 0 < k then putE (addB g.1 (a.1.getD k (0, 0), a.1.getD k (0, 0)), g.2.1, g.2.2.1 ++ [a.1.getD k (0, 0)], upM g.2.2.2.1 (a.1.getD k (0, 0)) true, g.2.2.2.2) (a.1.getD (k - 1) (0, 0)) (a.1.getD k (0, 0)) else (addB g.1 (a.1.getD k (0, 0), a.1.getD k (0, 0)), g.2.1, g.2.2.1 ++ [a.1.getD k (0, 0)], upM g.2.2.2.1 (a.1.getD k (0, 0)) true, g.2.2.2.2) := by
      unfold stepK putP
      simp only [hh, Bool.false_eq_true, if_false]
    rw [e]
    exact congrArg (fun t => some (Sum.inl t)) (flat_if (addB g.1 (a.1.getD k (0, 0), a.1.getD k (0, 0)), g.2.1, g.2.2.1 ++ [a.1.getD k (0, 0)], upM g.2.2.2.1 (a.1.getD k (0, 0)) true, g.2.2.2.2) k _ _ _)
theorem arc_eq (x : Int) (a : Ar) {g : Gd} {L : List Int} {n : Nat} (h : GI g L n) (hn : n + a.1.length ≤ 900) :
    guard_New_l2 x a (g.1.1, g.1.2.1, g.1.2.2, g.2.2.1, g.2.2.2.1, g.2.2.2.2, 0) = some (.inl ((arcG g a).1.1, (arcG g a).1.2.1, (arcG g a).1.2.2, (arcG g a).2.2.1, (arcG g a).2.2.2.1, (arcG g a).2.2.2.2, ad x 1)) := by
  have := loopO_nat (body := fun s => guard_New_b2 x a s.1 s.2.1 s.2.2.1 s.2.2.2.1 s.2.2.2.2.1 s.2.2.2.2.2.1 s.2.2.2.2.2.2) (fun k => (((List.range k).foldl (stepK a.1) g).1.1, ((List.range k).foldl (stepK a.1) g).1.2.1, ((List.range k).foldl (stepK a.1) g).1.2.2, ((List.range k).foldl (stepK a.1) g).2.2.1, ((List.range k).foldl (stepK a.1) g).2.2.2.1, ((List.range k).foldl (stepK a.1) g).2.2.2.2, (k : Int))) a.1.length (.inl ((arcG g a).1.1, (arcG g a).1.2.1, (arcG g a).1.2.2, (arcG g a).2.2.1, (arcG g a).2.2.2.1, (arcG g a).2.2.2.2, ad x 1)) (fun k hk => by
    dsimp only
    rw [step_eq x a (h.range a.1 k) (by omega) k hk (by omega), List.range_succ, List.foldl_append]; rfl) (by
    dsimp only
    unfold guard_New_b2
    rw [dnlt (Nat.lt_irrefl _), if_neg (by decide)]; rfl)
  exact this
def total (l : List Ar) : Nat := (l.map fun a => a.1.length).sum
theorem GI.arcs {g : Gd} {L : List Int} : ∀ {n : Nat} (l : List Ar), GI g L n → GI (l.foldl arcG g) L (n + total l)
  | n, [], h => h
  | n, a :: l, h => by
    have := GI.arcs l (h.range a.1 a.1.length)
    have e : n + total (a :: l) = n + a.1.length + total l := by unfold total; simp only [List.map_cons, List.sum_cons]; omega
    rw [e]; exact this
theorem GI.nil (L : List Int) : GI (([], [], []), L, [], [], []) L 0 := ⟨Inv.nil, Nat.le_refl _, rfl, List.nodup_nil, List.nodup_nil⟩
theorem total_take (l : List Ar) (k : Nat) : total (l.take k) ≤ total l := by
  unfold total
  induction l generalizing k with
  | nil => simp
  | cons a l ih =>
    cases k with
    | zero => simp
    | succ k => simp only [List.take_succ_cons, List.map_cons, List.sum_cons]; have := ih k; omega
theorem total_snoc (l : List Ar) {k : Nat} (h : k < l.length) : total (l.take k) + (l.getD k ([], 0, 0)).1.length ≤ total l := by
  have h1 := total_take l (k + 1)
  rw [snoc_take ([], 0, 0) h] at h1
  unfold total at *
  simp only [List.map_append, List.sum_append, List.map_cons, List.map_nil, List.sum_cons, List.sum_nil] at h1
  omega
theorem New18_eq (L : List Int) (l : List Ar) (hL : L.length ≤ 1000) (hl : l.length ≤ 1000) (ht : total l ≤ 800) : guard_New L l = some (newG L l) := by
  unfold guard_New
  rw [New_eq [] (by simp), bind_some', app_le (by simp; omega), bind_some', List.nil_append]
  have := loopO_nat (body := fun s => guard_New_b1 l L s.1 s.2.1 s.2.2.1 s.2.2.2.1 s.2.2.2.2.1 s.2.2.2.2.2.1 s.2.2.2.2.2.2) (fun k => ((newG L (l.take k)).1.1, (newG L (l.take k)).1.2.1, (newG L (l.take k)).1.2.2, (newG L (l.take k)).2.2.1, (newG L (l.take k)).2.2.2.1, (newG L (l.take k)).2.2.2.2, (k : Int))) l.length (newG L l) (fun k hk => by
    dsimp only
    have hG : GI (newG L (l.take k)) L (0 + total (l.take k)) := GI.arcs _ (GI.nil L)
    have h2 := total_snoc l hk
    have e : newG L (l.take (k + 1)) = arcG (newG L (l.take k)) (l.getD k ([], 0, 0)) := by
      unfold newG
      rw [snoc_take ([], 0, 0) hk, List.foldl_append]; rfl
    rw [e]
    unfold guard_New_b1
    rw [dlt hk, if_pos rfl, ix_getD ([], 0, 0) hk, bind_some', arc_eq _ _ hG (by omega), ad_one (by omega)]) (by
    dsimp only
    have hG : GI (newG L (l.take l.length)) L (0 + total (l.take l.length)) := GI.arcs _ (GI.nil L)
    have hlin := hG.lin
    unfold guard_New_b1
    rw [dnlt (Nat.lt_irrefl _), if_neg (by decide)]
    rw [List.take_length] at hlin ⊢
    have e : ((newG L l).1, L, (newG L l).2.2) = newG L l := Prod.ext rfl (Prod.ext hlin.symm rfl)
    exact congrArg (fun t => some (Sum.inr t)) e)
  exact this
end Go.Proofs.Ytoccfdohlefifaa.Pl
