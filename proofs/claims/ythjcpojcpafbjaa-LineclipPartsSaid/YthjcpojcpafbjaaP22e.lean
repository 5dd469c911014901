/-
  Chapter 22, plainly: parts, from the head on, and turned. No program in sight.
-/
import Derived.Test.YthjcpojcpafbjaaP22d
namespace Go.Proofs.Ythjcpojcpafbjaa.Pl

theorem Shw_swap {p q : Pt} {b : Bx} (h : Shw p q b) : Shw q p b := by
  obtain ⟨h1, h2, h3, h4, h5, h6, h7⟩ := h
  exact ⟨fun e => h1 e.symm, ⟨h2.2, h2.1⟩, h3, h5, h4, fun hs => h6 ⟨hs.1.symm, by rw [← hs.1]; exact hs.2⟩, fun hs => h7 ⟨hs.1.symm, by rw [← hs.1]; exact hs.2⟩⟩
def s2 (b : Bx) (p q : Pt) : Bool := decide (Shw p q b)
theorem s2_swap (b : Bx) (p q : Pt) : s2 b p q = s2 b q p := by
  unfold s2
  by_cases h : Shw p q b
  · rw [decide_eq_true h, decide_eq_true (Shw_swap h)]
  · rw [decide_eq_false h, decide_eq_false fun h' => h (Shw_swap h')]
/-- Is the first edge shown? -/
def fe (b : Bx) : List Pt → Bool
  | x :: y :: _ => s2 b x y
  | _ => false
/-- Is the last edge shown? -/
def le (b : Bx) : List Pt → Bool
  | [] => false
  | [_] => false
  | [x, y] => s2 b x y
  | _ :: y :: z :: l => le b (y :: z :: l)
theorem le_snoc (b : Bx) : ∀ (l : List Pt) (y z : Pt), le b (l ++ [y, z]) = s2 b y z
  | [], _, _ => rfl
  | [_], _, _ => rfl
  | _ :: x :: l, y, z => by
    have := le_snoc b (x :: l) y z
    cases l with
    | nil => exact this
    | cons w l => exact this
def cst (b : Bx) (x y : Pt) (f : Bool) (o : List (List Pt)) : List (List Pt) :=
  if s2 b x y then (if f then (match o with | [] => [[x, y]] | p :: r => (x :: p) :: r) else [x, y] :: o) else o
def sst (b : Bx) (o : List (List Pt)) (g : Bool) (y z : Pt) : List (List Pt) :=
  if s2 b y z then (if g then o.set (o.length - 1) (o.getD (o.length - 1) [] ++ [z]) else o ++ [[y, z]]) else o
def PP (b : Bx) : List Pt → List (List Pt)
  | [] => []
  | [_] => []
  | x :: y :: l => cst b x y (fe b (y :: l)) (PP b (y :: l))
theorem cst_ne {b : Bx} {x y : Pt} {f : Bool} {o : List (List Pt)} (h : s2 b x y = true ∨ o ≠ []) : cst b x y f o ≠ [] := by
  unfold cst
  by_cases h1 : s2 b x y = true
  · rw [if_pos h1]
    cases f with
    | true =>
      simp only [if_true]
      cases o <;> simp
    | false => simp
  · rw [if_neg h1]
    exact h.resolve_left h1
theorem PP_fe {b : Bx} : ∀ {l : List Pt}, fe b l = true → PP b l ≠ []
  | [], h => by cases h
  | [_], h => by cases h
  | x :: y :: l, h => cst_ne (.inl h)
theorem PP_le {b : Bx} : ∀ {l : List Pt}, le b l = true → PP b l ≠ []
  | [], h => by cases h
  | [_], h => by cases h
  | [x, y], h => cst_ne (.inl h)
  | x :: y :: z :: l, h => cst_ne (.inr (PP_le (l := y :: z :: l) h))
theorem cs_comm {b : Bx} {x w y z : Pt} {f g : Bool} {o : List (List Pt)} (hf : f = true → o ≠ []) (hg : g = true → o ≠ []) : cst b x w f (sst b o g y z) = sst b (cst b x w f o) g y z := by
  unfold cst sst
  by_cases h1 : s2 b x w = true
  · by_cases h2 : s2 b y z = true
    · rw [if_pos h1, if_pos h1, if_pos h2, if_pos h2]
      cases f with
      | true =>
        cases o with
        | nil => exact (hf rfl rfl).elim
        | cons p r =>
          cases g with
          | true =>
            simp only [if_true]
            cases r with
            | nil => simp
            | cons q r => simp
          | false => simp
      | false =>
        cases g with
        | true =>
          cases o with
          | nil => exact (hg rfl rfl).elim
          | cons p r => simp
        | false => simp
    · rw [if_neg h2, if_neg h2]
  · rw [if_neg h1, if_neg h1]
theorem PP_snoc (b : Bx) : ∀ (l : List Pt) (y z : Pt), PP b (l ++ [y, z]) = sst b (PP b (l ++ [y])) (le b (l ++ [y])) y z
  | [], y, z => by
    show cst b y z false [] = sst b [] false y z
    unfold cst sst
    split <;> simp
  | [x], y, z => by
    show cst b x y (s2 b y z) (cst b y z false []) = sst b (cst b x y false []) (s2 b x y) y z
    unfold cst sst
    by_cases h1 : s2 b x y = true <;> by_cases h2 : s2 b y z = true <;> simp [h1, h2]
  | x :: w :: l, y, z => by
    have ih := PP_snoc b (w :: l) y z
    have e1 : fe b (w :: (l ++ [y, z])) = fe b (w :: (l ++ [y])) := by cases l <;> rfl
    have e2 : le b (x :: w :: (l ++ [y])) = le b (w :: (l ++ [y])) := by cases l <;> rfl
    show cst b x w (fe b (w :: (l ++ [y, z]))) (PP b (w :: l ++ [y, z])) = sst b (cst b x w (fe b (w :: (l ++ [y]))) (PP b (w :: (l ++ [y])))) (le b (x :: w :: (l ++ [y]))) y z
    rw [ih, e1, e2]
    exact cs_comm (fun h => PP_fe h) (fun h => PP_le h)
theorem set_rev {o : List (List Pt)} {x : List Pt} (h : o ≠ []) : (o.set (o.length - 1) x).reverse = x :: o.reverse.tail := by
  rw [set_last x h, List.reverse_append]
  have e := last_snoc [] h
  have : o.reverse = o.getD (o.length - 1) [] :: (o.take (o.length - 1)).reverse := by
    conv => lhs; rw [e, List.reverse_append]
    rfl
  rw [this]; rfl
theorem PP_rev (b : Bx) : ∀ l : List Pt, PP b l.reverse = ((PP b l).map List.reverse).reverse
  | [] => rfl
  | [_] => rfl
  | x :: y :: l => by
    have ih := PP_rev b (y :: l)
    have e1 : (x :: y :: l).reverse = l.reverse ++ [y, x] := by simp
    have e2 : (y :: l).reverse = l.reverse ++ [y] := by simp
    rw [e1, PP_snoc, ← e2, ih]
    have hle : le b (y :: l).reverse = fe b (y :: l) := by
      cases l with
      | nil => rfl
      | cons w l =>
        have : (y :: w :: l).reverse = l.reverse ++ [w, y] := by simp
        rw [this, le_snoc, s2_swap]; rfl
    rw [hle]
    show sst b ((PP b (y :: l)).map List.reverse).reverse (fe b (y :: l)) y x = ((cst b x y (fe b (y :: l)) (PP b (y :: l))).map List.reverse).reverse
    have hfe := PP_fe (b := b) (l := y :: l)
    generalize PP b (y :: l) = o at hfe ⊢
    generalize fe b (y :: l) = f at hfe ⊢
    unfold cst sst
    rw [s2_swap b y x]
    by_cases h1 : s2 b x y = true
    · rw [if_pos h1, if_pos h1]
      cases f with
      | false => simp
      | true =>
        cases o with
        | nil => exact (hfe rfl rfl).elim
        | cons p r =>
          simp only [if_true, List.map_cons, List.reverse_cons]
          rw [set_last _ (by simp)]
          simp
    · rw [if_neg h1, if_neg h1]
theorem prt_PP (l : List Pt) (b : Bx) : ∀ i, i ≤ l.length → prt l b i = (PP b (l.take i), le b (l.take i)) := by
  intro i
  induction i with
  | zero => intro _; rfl
  | succ i ih =>
    intro hi
    rcases Nat.eq_zero_or_pos i with h0 | h0
    · subst h0
      rw [prt_one, snoc_take (0, 0) (show 0 < l.length by omega)]
      rfl
    · have e1 := snoc_take (l := l) (k := i) (0, 0) (by omega)
      have e2 := snoc_take (l := l) (k := i - 1) (0, 0) (by omega)
      rw [show i - 1 + 1 = i by omega] at e2
      have e3 : l.take (i + 1) = l.take (i - 1) ++ [l.getD (i - 1) (0, 0), l.getD i (0, 0)] := by rw [e1, e2, List.append_assoc]; rfl
      rw [prt_succ h0, ih (by omega), e3, PP_snoc, le_snoc, ← e2]
      unfold sst sh s2
      split
      · rename_i h; rw [h]
      · rename_i h
        have : decide (Shw (l.getD (i - 1) (0, 0)) (l.getD i (0, 0)) b) = false := by simpa using h
        rw [this]
theorem parts_PP (l : List Pt) (b : Bx) : parts l b = PP b l := by
  unfold parts
  rw [prt_PP l b _ (Nat.le_refl _), List.take_length]
/-! ### all edges are shown -/
def All (b : Bx) : List Pt → Prop
  | x :: y :: l => s2 b x y = true ∧ All b (y :: l)
  | _ => True
theorem PP_all {b : Bx} : ∀ (l : List Pt), (∀ p ∈ PP b l, 2 ≤ p.length ∧ All b p) ∧ (∀ x y r, l = x :: y :: r → s2 b x y = true → ∃ p o, PP b l = p :: o ∧ ∃ r', p = x :: y :: r')
  | [] => ⟨fun p hp => by simp [PP] at hp, fun x y r h => by cases h⟩
  | [_] => ⟨fun p hp => by simp [PP] at hp, fun x y r h => by cases h⟩
  | x :: y :: l => by
    obtain ⟨h1, h2⟩ := PP_all (b := b) (y :: l)
    by_cases hs : s2 b x y = true
    · by_cases hf : fe b (y :: l) = true
      · have hl : ∃ z r, l = z :: r ∧ s2 b y z = true := by
          cases l with
          | nil => cases hf
          | cons z r => exact ⟨z, r, rfl, hf⟩
        obtain ⟨z, r, rfl, hyz⟩ := hl
        obtain ⟨p, o, hpo, r', hp⟩ := h2 y z r rfl hyz
        have e : PP b (x :: y :: z :: r) = (x :: p) :: o := by
          show cst b x y (fe b (y :: z :: r)) (PP b (y :: z :: r)) = _
          unfold cst
          rw [if_pos hs, hf, hpo]; rfl
        rw [e]
        rw [hpo] at h1
        refine ⟨fun q hq => ?_, fun a c r2 he _ => ⟨x :: p, o, rfl, z :: r', ?_⟩⟩
        · rcases List.mem_cons.1 hq with rfl | hq
          · have := h1 p (by simp)
            refine ⟨by simp only [List.length_cons]; omega, ?_⟩
            rw [hp] at this ⊢
            exact ⟨hs, this.2⟩
          · exact h1 q (by simp [hq])
        · injection he with e1 e2
          injection e2 with e2 e3
          rw [hp, ← e1, ← e2]
      · have e : PP b (x :: y :: l) = [x, y] :: PP b (y :: l) := by
          show cst b x y (fe b (y :: l)) (PP b (y :: l)) = _
          unfold cst
          rw [if_pos hs, if_neg hf]
        rw [e]
        refine ⟨fun q hq => ?_, fun a c r2 he _ => ⟨[x, y], _, rfl, [], ?_⟩⟩
        · rcases List.mem_cons.1 hq with rfl | hq
          · exact ⟨by simp, hs, trivial⟩
          · exact h1 q hq
        · injection he with e1 e2
          injection e2 with e2 e3
          rw [← e1, ← e2]
    · have e : PP b (x :: y :: l) = PP b (y :: l) := by
        show cst b x y (fe b (y :: l)) (PP b (y :: l)) = _
        unfold cst
        rw [if_neg hs]
      rw [e]
      refine ⟨h1, fun a c r2 he h => ?_⟩
      injection he with e1 e2
      injection e2 with e2 e3
      rw [← e1, ← e2] at h
      exact (hs h).elim
theorem PP_of_all {b : Bx} : ∀ (l : List Pt), 2 ≤ l.length → All b l → PP b l = [l]
  | [], h, _ => by simp at h
  | [_], h, _ => by simp at h
  | [x, y], _, h => by
    show cst b x y false [] = _
    unfold cst
    rw [if_pos h.1]; rfl
  | x :: y :: z :: l, _, h => by
    have ih := PP_of_all (b := b) (y :: z :: l) (by simp) h.2
    show cst b x y (s2 b y z) (PP b (y :: z :: l)) = _
    unfold cst
    rw [if_pos h.1, if_pos h.2.1, ih]
theorem All_mem {b : Bx} : ∀ (l : List Pt), 2 ≤ l.length → All b l → ∀ p ∈ l, May p ∧ Rt b ∧ In p b
  | [], h, _, _, _ => by simp at h
  | [_], h, _, _, _ => by simp at h
  | [x, y], _, h, p, hp => by
    have hs : Shw x y b := of_decide_eq_true h.1
    simp at hp
    rcases hp with rfl | rfl
    · exact ⟨hs.2.1.1, hs.2.2.1, hs.2.2.2.1⟩
    · exact ⟨hs.2.1.2, hs.2.2.1, hs.2.2.2.2.1⟩
  | x :: y :: z :: l, _, h, p, hp => by
    have hs : Shw x y b := of_decide_eq_true h.1
    rcases List.mem_cons.1 hp with rfl | hp
    · exact ⟨hs.2.1.1, hs.2.2.1, hs.2.2.2.1⟩
    · exact All_mem (y :: z :: l) (by simp) h.2 p hp
theorem PP_tot (b : Bx) : ∀ l : List Pt, (PP b l).length ≤ l.length ∧ tot (PP b l) ≤ 2 * l.length
  | [] => by simp [PP, tot]
  | [_] => by simp [PP, tot]
  | x :: y :: l => by
    have ih := PP_tot b (y :: l)
    show (cst b x y (fe b (y :: l)) (PP b (y :: l))).length ≤ _ ∧ tot (cst b x y (fe b (y :: l)) (PP b (y :: l))) ≤ _
    generalize PP b (y :: l) = o at ih ⊢
    unfold cst
    split
    · split
      · split
        · simp [tot]; omega
        · simp only [List.length_cons, tot, List.map_cons, List.sum_cons] at ih ⊢; omega
      · simp only [List.length_cons, tot, List.map_cons, List.sum_cons, List.length_nil] at ih ⊢; omega
    · simp only [List.length_cons] at ih ⊢; omega
/-! ### how many edges -/
def cnt (o : List (List Pt)) : Nat := (o.map fun p => p.length - 1).sum
theorem Count_eq (l : List Pt) (b : Bx) (hn : l.length ≤ 1000000) : lineclip_Count l b = some (cnt (PP b l) : Int) := by
  unfold lineclip_Count lineclip_Count_l1
  rw [Parts_eq l b hn, bind_some', parts_PP]
  obtain ⟨t1, t2⟩ := PP_tot b l
  have hge : ∀ p ∈ PP b l, 2 ≤ p.length := fun p hp => ((PP_all (b := b) l).1 p hp).1
  generalize PP b l = o at t1 t2 hge ⊢
  have hc : ∀ k, cnt (o.take k) ≤ tot o := fun k => by
    have h1 : ∀ m : List (List Pt), cnt m ≤ tot m := by
      intro m
      induction m with
      | nil => simp [cnt, tot]
      | cons p m ih => simp only [cnt, tot, List.map_cons, List.sum_cons] at ih ⊢; omega
    exact Nat.le_trans (h1 _) (tot_take k)
  have := loopO_nat (body := fun s => lineclip_Count_b1 o s.1 s.2) (fun k => ((cnt (o.take k) : Int), (k : Int))) o.length (cnt o : Int) (fun k hk => by
    unfold lineclip_Count_b1
    have hp := hge _ (getD_mem (d := []) hk)
    have hpt := tot_mem (getD_mem (d := []) hk)
    have h1 := hc k
    have es : sb ((o.getD k []).length : Int) 1 = (((o.getD k []).length - 1 : Nat) : Int) := sb_one (by omega) (by omega)
    have ek : ad (k : Int) 1 = ((k + 1 : Nat) : Int) := ad_one (by omega)
    have e2 : cnt (o.take (k + 1)) = cnt (o.take k) + ((o.getD k []).length - 1) := by
      rw [snoc_take [] hk]; simp [cnt]
    simp only [dlt hk, if_true, ix_getD [] hk, bind_some', es, ek]
    rw [e2, ad_in (by omega)]
    congr 3) (by
    unfold lineclip_Count_b1
    simp only [dnlt (Nat.lt_irrefl _), List.take_length]; rfl)
  exact this
theorem cnt_rev (o : List (List Pt)) : cnt (o.map List.reverse).reverse = cnt o := by
  unfold cnt
  rw [List.map_reverse, List.map_map]
  have : ((fun p : List Pt => p.length - 1) ∘ List.reverse) = fun p => p.length - 1 := by funext p; simp
  rw [this, List.sum_reverse]
end Go.Proofs.Ythjcpojcpafbjaa.Pl
