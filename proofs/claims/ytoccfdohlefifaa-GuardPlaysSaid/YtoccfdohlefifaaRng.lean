import Derived.Test.YtoccfdohlefifaaMrow
import Derived.Test.YtoccfdohlefifaaPst
import Derived.Maps.RangeRun
namespace Go.Proofs.Ytoccfdohlefifaa
open Go.RowKit Go.ChangeMaps
theorem flt_erase {α : Type} (b : α → Nat) (p : Nat → Bool) : ∀ (l : List α) (i : Nat) (x : α), (l.map b).Pairwise (· < ·) → (l.filter fun a => p (b a))[i]? = some x → (l.filter fun a => p (b a) && b a != b x) = (l.filter fun a => p (b a)).eraseIdx i
  | [], i, x, _, h => by simp at h
  | a :: l, i, x, hp, h => by
    rw [List.map_cons, List.pairwise_cons] at hp
    by_cases ha : p (b a) = true
    · have e1 : (a :: l).filter (fun a => p (b a)) = a :: l.filter fun a => p (b a) := List.filter_cons_of_pos (by simpa using ha)
      rw [e1] at h ⊢
      cases i with
      | zero =>
        simp only [List.getElem?_cons_zero, Option.some.injEq] at h
        subst h
        rw [List.eraseIdx_cons_zero, List.filter_cons_of_neg (by simp)]
        refine List.filter_congr fun y hy => ?_
        have := hp.1 (b y) (List.mem_map.2 ⟨y, hy, rfl⟩)
        have hne : (b y != b a) = true := by simp; omega
        rw [hne, Bool.and_true]
      | succ i =>
        simp only [List.getElem?_cons_succ] at h
        have hx : x ∈ l := (List.mem_filter.1 (List.mem_of_getElem? h)).1
        have := hp.1 (b x) (List.mem_map.2 ⟨x, hx, rfl⟩)
        have hne : (b a != b x) = true := by simp; omega
        rw [List.filter_cons_of_pos (by rw [ha, hne]; rfl), List.eraseIdx_cons_succ, flt_erase b p l i x hp.2 h]
    · have e1 : (a :: l).filter (fun a => p (b a)) = l.filter fun a => p (b a) := List.filter_cons_of_neg (by simpa using ha)
      rw [e1] at h ⊢
      rw [List.filter_cons_of_neg (by simp [ha]), flt_erase b p l i x hp.2 h]
def Lft {K V : Type} (es : List MapEntry) (D : List (K × V)) (seen : Array Nat) : List (K × V) := ((es.zip D).filter fun p => !seen.contains p.1.born).map (·.2)
def MitO {K V : Type} (own : Own) (lab labg : Nat) (w : World) (r g : Nat) (kf : K → Value) (vf : V → Value) (D L : List (K × V)) (o : Option (K × V)) : Prop :=
  own r = lab ∧ own g = labg ∧ ∃ es clock since seen c0, (w.heap[g]? = some (.map es clock) ∧ es.toList.map (·.key) = D.map (fun p => kf p.1) ∧ es.toList.map (·.val) = D.map (fun p => vf p.2) ∧ Born es.toList clock) ∧
    w.heap[r]? = some (.mapIter (some g) since seen c0) ∧ since = clock ∧ since ≤ c0 ∧ L = Lft es.toList D seen ∧ ∀ e, o = some e → ∃ (x : MapEntry) (s' : Array Nat), (x, e) ∈ es.toList.zip D ∧ seen = s'.push x.born ∧ c0 = clock
section
variable {K V : Type} {own own' : Own} {lab labg lab2 g r : Nat} {w w' : World} {kf : K → Value} {vf : V → Value} {D L : List (K × V)} {o : Option (K × V)} {T : List Nat}
theorem MitO.evo (hl : lab ∉ T) (hg : labg ∉ T) (he : Evo T own own' w w') (h : MitO own lab labg w r g kf vf D L o) : MitO own' lab labg w' r g kf vf D L o := by
  obtain ⟨h0, h1, es, clock, since, seen, c0, ⟨m1, m2⟩, i1, i2⟩ := h
  have k1 := he.keep r (Array.getElem?_eq_some_iff.1 i1).1 (fun hm => by rw [h0] at hm; exact (hl hm).elim)
  have k2 := he.keep g (Array.getElem?_eq_some_iff.1 m1).1 (fun hm => by rw [h1] at hm; exact (hg hm).elim)
  exact ⟨k1.1.trans h0, k2.1.trans h1, es, clock, since, seen, c0, ⟨k2.2.trans m1, m2⟩, k1.2.trans i1, i2⟩
theorem Lft_all (es : List MapEntry) (D : List (K × V)) (h : es.length = D.length) : Lft es D #[] = D := by
  unfold Lft
  rw [List.filter_eq_self.2 (fun p _ => by simp), List.map_snd_zip (by omega)]
end
def nxM {K V : Type} (kf : K → Value) (vf : V → Value) (L : List (K × V)) (q : Nat) : Value := match L[q]? with
  | none => .tuple #[.bool false]
  | some e => .tuple #[.bool true, kf e.1, vf e.2]
section
variable {K V : Type} {P : Program} {T : List Nat} {own : Own} {a : Act} {w : World} {d : Nat} {x : Operand} {t kt vt ty : TypeId} {pos : String} {after : Array Edge} {guard : Option (Nat × Bool)} {lab labg lab2 g r : Nat} {kf : K → Value} {vf : V → Value} {D L : List (K × V)}
theorem or_rangeM {f : Fct} (hT : P.underlying t = some (.map kt vt)) (hx : a.eval x = .map (some g)) (h : MpO own labg w g kf vf D) (hg : labg ∉ T)
    (hf : ∀ (own' : Own) (a' : Act) (w' : World) (r : Nat), a'.eval (.tmp d) = .pointer (some ⟨r, 0, none⟩) → MitO own' lab labg w' r g kf vf D D none → f.p own' a' w') :
    OpR P ⟨some d, .range t x, ty, pos, after, guard⟩ a w (Post T own a w f (some d)) := by
  obtain ⟨h0, es, clock, h1, h2, h3, h4⟩ := h
  have hlt := (Array.getElem?_eq_some_iff.1 h1).1
  unfold OpR Oper.wp
  have : (execOp a.eval ⟨some d, .range t x, ty, pos, after, guard⟩).run P w = .ok (.value (.pointer (some ⟨w.heap.size, 0, none⟩))) (w.alloc (.mapIter (some g) clock #[] clock)) := by
    simp only [execOp, hx]
    simp [Sem.run_bind, run_range_map w t kt vt g es clock hT h1]
  rw [this]
  have he := Evo.ofAlloc T lab own w (.mapIter (some g) clock #[] clock)
  have hk := he.keep g hlt (fun hm => by rw [h0] at hm; exact (hg hm).elim)
  have hlen : es.toList.length = D.length := by have := congrArg List.length h2; simpa using this
  exact ⟨_, rfl, mvOwn w T lab own, he, fun a' ha => hf _ a' _ w.heap.size (ha.1 d rfl) ⟨mvOwn_new (Nat.le_refl _), hk.1.trans h0, es, clock, clock, #[], clock, ⟨hk.2.trans h1, h2, h3, h4⟩, heap_alloc_new w _, rfl, Nat.le_refl _, (Lft_all _ _ hlen).symm, fun e he => by cases he⟩⟩
theorem or_entryM {e : K × V} (hx : a.eval x = .pointer (some ⟨r, 0, none⟩)) (h : MitO own lab labg w r g kf vf D L (some e)) :
    OpR P ⟨some d, .entry x, ty, pos, after, guard⟩ a w (Post T own a w (Fct.val d (.tuple #[kf e.1, vf e.2])) (some d)) := by
  obtain ⟨_, _, es, clock, since, seen, c0, ⟨m1, m2, m3, m4⟩, i1, _, _, _, i5⟩ := h
  obtain ⟨y, s', hy, rfl, rfl⟩ := i5 e rfl
  have hye : y ∈ es.toList := (List.of_mem_zip hy).1
  have hr := run_entry_at (P := P) w r g since s' es c0 y i1 m1 hye (m4.1.imp (fun h => Nat.ne_of_lt h))
  obtain ⟨j, hj, hjj⟩ := List.mem_iff_getElem.1 hy
  have hkv : y.key = kf e.1 ∧ y.val = vf e.2 := by
    rw [List.getElem_zip] at hjj
    injection hjj with q1 q2
    have a1 := congrArg (fun l => l[j]?) m2
    have a2 := congrArg (fun l => l[j]?) m3
    rw [List.length_zip] at hj
    simp only [List.getElem?_map, List.getElem?_eq_getElem (show j < es.toList.length by omega), List.getElem?_eq_getElem (show j < D.length by omega), Option.map_some, Option.some.injEq] at a1 a2
    rw [q1, q2] at a1 a2
    exact ⟨a1, a2⟩
  refine or_val (o := ⟨some d, .entry x, ty, pos, after, guard⟩) rfl ?_
  simp only [execOp, hx]
  rw [← hkv.1, ← hkv.2]
  simp [Sem.run_bind, hr]
theorem Lft_fst (es : List MapEntry) (D : List (K × V)) (h : es.length = D.length) (seen : Array Nat) : ((es.zip D).filter fun p => !seen.contains p.1.born).map (·.1) = es.filter fun e => !seen.contains e.born := by
  have : es = (es.zip D).map (·.1) := by rw [List.map_fst_zip (by omega)]
  conv => rhs; rw [this, List.filter_map]
  rfl
theorem or_nextM {o : Option (K × V)} {f : Fct} (hx : a.eval x = .pointer (some ⟨r, 0, none⟩)) (h : MitO own lab labg w r g kf vf D L o) (hT : lab ∈ T) (h0 : lab ≠ 0) (hg : labg ∉ T)
    (hf : ∀ (own' : Own) (a' : Act) (w' : World) (q : Nat), (q < L.length ∨ L.length = 0 ∧ q = 0) → a'.eval (.tmp d) = nxM kf vf L q → MitO own' lab2 labg w' r g kf vf D (L.eraseIdx q) L[q]? → f.p own' a' w') :
    OpR P ⟨some d, .next x false, ty, pos, after, guard⟩ a w (Post T own a w f (some d)) := by
  obtain ⟨h1, h2, es, clock, since, seen, c0, ⟨m1, m2, m3, m4⟩, i1, i2, i3, rfl, i5⟩ := h
  have hrlt := (Array.getElem?_eq_some_iff.1 i1).1
  have hne : r ≠ g := fun e => by rw [e, m1] at i1; cases i1
  have hlen : es.toList.length = D.length := by have := congrArg List.length m2; simpa using this
  have hfst := Lft_fst (K := K) (V := V) es.toList D hlen seen
  have hleft : (leftOf es seen).toList = es.toList.filter fun e => !seen.contains e.born := by unfold leftOf; simp
  unfold OpR Oper.wp
  rcases run_next_at (P := P) w ty r g since c0 seen es clock i1 m1 (fun y hy => by rw [i2]; exact m4.2 _ (List.mem_map.2 ⟨y, hy, rfl⟩)) i3 with ⟨hs, hr⟩ | ⟨e, he, w1, hw1, hr⟩
  · have hL : (Lft es.toList D seen).length = 0 := by
      have : (leftOf es seen).toList.length = 0 := by simpa using hs
      rw [hleft, ← hfst] at this
      unfold Lft
      simpa using this
    have hnil := List.length_eq_zero_iff.1 hL
    have hx0 : Value.tuple #[.bool false] = nxM kf vf (Lft es.toList D seen) 0 := by rw [hnil]; rfl
    have hr' : (execOp a.eval ⟨some d, .next x false, ty, pos, after, guard⟩).run P w = .ok (.value (.tuple #[.bool false])) w := by
      simp only [execOp, hx]
      simp [Sem.run_bind, hr]
    rw [hr']
    exact ⟨_, rfl, mvOwn w T lab2 own, Evo.mv T lab2 own rfl rfl rfl (Nat.le_refl _) (fun _ _ _ => rfl), fun a' ha => hf _ a' _ 0 (.inr ⟨hL, rfl⟩) ((ha.1 d rfl).trans hx0) ⟨mvOwn_struck (by rw [h1]; exact hT) (by rw [h1]; exact h0), (mvOwn_same (Array.getElem?_eq_some_iff.1 m1).1 (by rw [h2]; exact hg)).trans h2, es, clock, since, seen, c0, ⟨m1, m2, m3, m4⟩, i1, i2, i3, by rw [hnil]; rfl, fun e he => by rw [hnil] at he; cases he⟩⟩
  · have he' : e ∈ (((es.toList.zip D).filter fun p => !seen.contains p.1.born).map (·.1)) := by rw [hfst, ← hleft]; exact he
    obtain ⟨i, hi, hie⟩ := List.mem_iff_getElem.1 he'
    have hi2 : i < ((es.toList.zip D).filter fun p => !seen.contains p.1.born).length := by simpa using hi
    have hiL : i < (Lft es.toList D seen).length := by unfold Lft; simpa using hi2
    obtain ⟨p, hp⟩ : ∃ p, ((es.toList.zip D).filter fun p => !seen.contains p.1.born)[i]? = some p := ⟨_, List.getElem?_eq_getElem hi2⟩
    have hpe : p.1 = e := by
      rw [← hie, List.getElem_map]
      rw [List.getElem?_eq_getElem hi2] at hp
      injection hp with hp
      rw [hp]
    have hpz : p ∈ es.toList.zip D := (List.mem_filter.1 (List.mem_of_getElem? hp)).1
    have hLi : (Lft es.toList D seen)[i]? = some p.2 := by
      unfold Lft
      rw [List.getElem?_map, hp]; rfl
    have hb : ((es.toList.zip D).map fun q => q.1.born).Pairwise (· < ·) := by
      have e1 : (es.toList.zip D).map (fun q => q.1.born) = es.toList.map (·.born) := by
        conv => rhs; rw [show es.toList = (es.toList.zip D).map (·.1) by rw [List.map_fst_zip (by omega)], List.map_map]
        rfl
      rw [e1]; exact m4.1
    have her := flt_erase (fun q : MapEntry × (K × V) => q.1.born) (fun n => !seen.contains n) (es.toList.zip D) i p hb hp
    have hL2 : (Lft es.toList D seen).eraseIdx i = Lft es.toList D (seen.push e.born) := by
      unfold Lft
      rw [← map_eraseIdx, ← her]
      congr 1
      refine List.filter_congr fun q _ => ?_
      rw [hpe, Array.contains_push]
      cases seen.contains q.1.born <;> simp [bne]
    have hgr : w.grownBy (setBlock w1 r (.mapIter (some g) since (seen.push e.born) clock)) (some r) := by
      rcases hw1 with rfl | rfl <;> refine ⟨rfl, rfl, rfl, by simp [setBlock], fun b _ hnb => ?_⟩
      · have : r ≠ b := fun q => hnb (by rw [q])
        simp [setBlock, Array.getElem?_setIfInBounds, this]
      · have : r ≠ b := fun q => hnb (by rw [q])
        show (w.heap.setIfInBounds r _)[b]? = _
        simp [Array.getElem?_setIfInBounds, this]
    have hkey : p.1.key = kf p.2.1 ∧ p.1.val = vf p.2.2 := by
      obtain ⟨j, hj, hjj⟩ := List.mem_iff_getElem.1 hpz
      rw [List.getElem_zip] at hjj
      have a1 := congrArg (fun l => l[j]?) m2
      have a2 := congrArg (fun l => l[j]?) m3
      rw [List.length_zip] at hj
      simp only [List.getElem?_map, List.getElem?_eq_getElem (show j < es.toList.length by omega), List.getElem?_eq_getElem (show j < D.length by omega), Option.map_some, Option.some.injEq] at a1 a2
      rw [← hjj]
      exact ⟨a1, a2⟩
    have hr' : (execOp a.eval ⟨some d, .next x false, ty, pos, after, guard⟩).run P w = .ok (.value (nxM kf vf (Lft es.toList D seen) i)) (setBlock w1 r (.mapIter (some g) since (seen.push e.born) clock)) := by
      have e1 : nxM kf vf (Lft es.toList D seen) i = .tuple #[.bool true, e.key, e.val] := by
        unfold nxM
        rw [hLi]
        dsimp only
        rw [← hpe, hkey.1, hkey.2]
      rw [e1]
      simp only [execOp, hx]
      simp [Sem.run_bind, hr]
    rw [hr']
    have hr1 : w1.heap.size = w.heap.size := by rcases hw1 with rfl | rfl <;> rfl
    have hg1 : w1.heap[g]? = w.heap[g]? := by rcases hw1 with rfl | rfl <;> rfl
    refine ⟨_, rfl, mvOwn w T lab2 own, Evo.ofSet (g := r) (by rw [h1]; exact hT) (by rw [h1]; exact h0) hgr, fun a' ha => hf _ a' _ i (.inl hiL) (ha.1 d rfl) ⟨mvOwn_struck (by rw [h1]; exact hT) (by rw [h1]; exact h0), (mvOwn_same (Array.getElem?_eq_some_iff.1 m1).1 (by rw [h2]; exact hg)).trans h2, es, clock, since, seen.push e.born, clock, ⟨?_, m2, m3, m4⟩, ?_, i2, by omega, hL2, fun e2 he2 => ?_⟩⟩
    · have : r ≠ g := hne
      simp [setBlock, Array.getElem?_setIfInBounds, this, hg1, m1]
    · simp [setBlock, Array.getElem?_setIfInBounds, hr1, hrlt]
    · rw [hLi] at he2
      injection he2 with he2
      refine ⟨p.1, seen, ?_, by rw [hpe], rfl⟩
      rw [← he2]; exact hpz
theorem or_mx {q : Nat} {b : Bool} (hx : a.eval x = nxM kf vf L q) (hb : decide (q < L.length) = b) : OpR P ⟨some d, .extract x 0, ty, pos, after, guard⟩ a w (Post T own a w (Fct.val d (.bool b)) (some d)) :=
  or_val (o := ⟨some d, .extract x 0, ty, pos, after, guard⟩) rfl (by
    subst hb
    unfold nxM at hx
    by_cases h : q < L.length
    · rw [List.getElem?_eq_getElem h] at hx; rw [decide_eq_true h]; simp only [execOp, hx]; rfl
    · rw [List.getElem?_eq_none (by omega)] at hx; rw [decide_eq_false h]; simp only [execOp, hx]; rfl)
end
theorem MitO.none_ {K V : Type} {own : Own} {lab labg r g : Nat} {w : World} {kf : K → Value} {vf : V → Value} {D L : List (K × V)} {o : Option (K × V)} (h : MitO own lab labg w r g kf vf D L o) : MitO own lab labg w r g kf vf D L none := by
  obtain ⟨h0, h1, es, clock, since, seen, c0, m, i1, i2, i3, i4, _⟩ := h
  exact ⟨h0, h1, es, clock, since, seen, c0, m, i1, i2, i3, i4, fun e he => by cases he⟩
theorem MitO.rl_ {K V : Type} {own : Own} {lab labg r g : Nat} {w : World} {kf : K → Value} {vf : V → Value} {D L : List (K × V)} {o : Option (K × V)} {mm : List (Nat × Nat)} (h : MitO own lab labg w r g kf vf D L o) : MitO (rl mm own) (look mm lab) (look mm labg) w r g kf vf D L o :=
  ⟨by show look mm (own r) = _; rw [h.1], by show look mm (own g) = _; rw [h.2.1], h.2.2⟩
theorem not_hit2 {T : List Nat} {x y : Nat} (h : hits T [x, y] = false) : x ∉ T ∧ y ∉ T := ⟨not_hit h (by simp), not_hit h (by simp)⟩
theorem nmem_of {l : Nat} {T : List Nat} (h : (T.any (Nat.beq l)) = false) : l ∉ T := fun hm => by
  have : T.any (Nat.beq l) = true := List.any_eq_true.2 ⟨l, hm, by simp⟩
  rw [h] at this; cases this
def Fct.mit {K V : Type} (lab labg g d : Nat) (kf : K → Value) (vf : V → Value) (D : List (K × V)) : Fct :=
  Fct.mems [lab, labg] d (fun r : Nat => .pointer (some ⟨r, 0, none⟩)) (fun r own w => MitO own lab labg w r g kf vf D D none) (fun hk he h => h.evo (not_hit2 hk).1 (not_hit2 hk).2 he)
def Fct.mitAt {K V : Type} (lab labg r g : Nat) (kf : K → Value) (vf : V → Value) (D L : List (K × V)) (o : Option (K × V)) : Fct :=
  ⟨[lab, labg], [], fun own _ w => MitO own lab labg w r g kf vf D L o, fun hk _ he h => h.evo (not_hit2 hk).1 (not_hit2 hk).2 he⟩
def Fct.mitN {K V : Type} (lab labg r g d : Nat) (kf : K → Value) (vf : V → Value) (D L : List (K × V)) : Fct :=
  Fct.mems [lab, labg] d (fun q : Nat => nxM kf vf L q) (fun q own w => (q < L.length ∨ L.length = 0 ∧ q = 0) ∧ MitO own lab labg w r g kf vf D (L.eraseIdx q) L[q]?) (fun hk he h => ⟨h.1, h.2.evo (not_hit2 hk).1 (not_hit2 hk).2 he⟩)
section
variable {K V : Type} {P : Program} {T : List Nat} {own : Own} {a : Act} {w : World} {d : Nat} {x : Operand} {t kt vt ty : TypeId} {pos : String} {after : Array Edge} {guard : Option (Nat × Bool)} {lab labg lab2 g r : Nat} {kf : K → Value} {vf : V → Value} {D L : List (K × V)}
theorem or_rangeMt (hT : P.underlying t = some (.map kt vt)) (hx : a.eval x = .map (some g)) (h : MpO own labg w g kf vf D) (hg : labg ∉ T) :
    OpR P ⟨some d, .range t x, ty, pos, after, guard⟩ a w (Post T own a w (Fct.mit lab labg g d kf vf D) (some d)) :=
  or_rangeM hT hx h hg fun _ _ _ r h1 h2 => ⟨r, h1, h2⟩
theorem or_nextMt {o : Option (K × V)} (hx : a.eval x = .pointer (some ⟨r, 0, none⟩)) (h : MitO own lab labg w r g kf vf D L o) (hT : lab ∈ T) (h0 : lab ≠ 0) (hg : labg ∉ T) :
    OpR P ⟨some d, .next x false, ty, pos, after, guard⟩ a w (Post T own a w (Fct.mitN lab2 labg r g d kf vf D L) (some d)) :=
  or_nextM hx h hT h0 hg fun _ _ _ q h1 h2 h3 => ⟨q, h2, h1, h3⟩
theorem nxM_lt {q q' : Nat} (h : nxM kf vf L q = nxM kf vf L q') : decide (q < L.length) = decide (q' < L.length) := by
  unfold nxM at h
  by_cases h1 : q < L.length <;> by_cases h2 : q' < L.length
  · rw [decide_eq_true h1, decide_eq_true h2]
  · rw [List.getElem?_eq_getElem h1, List.getElem?_eq_none (by omega : L.length ≤ q')] at h; cases h
  · rw [List.getElem?_eq_getElem h2, List.getElem?_eq_none (by omega : L.length ≤ q)] at h; cases h
  · rw [decide_eq_false h1, decide_eq_false h2]
theorem or_mxR {q t0 : Nat} (hd : d ≠ t0) (hx : a.eval (.tmp t0) = nxM kf vf L q) :
    OpR P ⟨some d, .extract (.tmp t0) 0, ty, pos, after, guard⟩ a w (Post T own a w (Fct.rel [d, t0] (fun l => ∀ q : Nat, l.getD 1 undef = nxM kf vf L q → l.getD 0 undef = .bool (decide (q < L.length)))) (some d)) :=
  or_mono (o := ⟨some d, .extract (.tmp t0) 0, ty, pos, after, guard⟩) (or_mx hx rfl) fun own' a' w' v hp h q' hq' => by
    have e1 : a'.eval (.tmp t0) = nxM kf vf L q := (hp.2 t0 (fun e => hd (Option.some.inj e))).trans hx
    have e2 : a'.eval (.tmp t0) = nxM kf vf L q' := hq'
    show a'.eval (.tmp d) = _
    rw [← nxM_lt (e1.symm.trans e2)]
    exact h
theorem or_entryQ {q : Nat} {e dv : K × V} (hx : a.eval x = .pointer (some ⟨r, 0, none⟩)) {L2 : List (K × V)} (h : MitO own lab labg w r g kf vf D L2 L[q]?) (hk : decide (q < L.length) = true) (he : L.getD q dv = e) :
    OpR P ⟨some d, .entry x, ty, pos, after, guard⟩ a w (Post T own a w (Fct.val d (.tuple #[kf e.1, vf e.2])) (some d)) := by
  have hq := of_decide_eq_true hk
  have e1 : L[q]? = some e := by rw [← he, List.getD_eq_getElem?_getD, List.getElem?_eq_getElem hq]; rfl
  rw [e1] at h
  exact or_entryM hx h
end
theorem fl_loopQ {r : Option Nat} {P : Program} {a : Act} {w : World} {Q : Exit → Act → World → Prop} {x : Code} {S Z : Type} {N : S → Nat} {body : S → Nat → Option (S ⊕ Z)} {s0 : S} {z : Z} (hs : loopQ N body s0 = some z) (Rel : S → Act → World → Prop) (h0 : Rel s0 a w)
    (round : ∀ (s : S) (a : Act) (w : World), Rel s a w → ∀ Q' : Exit → Act → World → Prop, (∀ q, (q < N s ∨ N s = 0 ∧ q = 0) → ∃ zz : S ⊕ Z, body s q = some zz ∧ (∀ s' a' w', some (Sum.inl s') = some zz → Rel s' a' w' → Q' .normal a' w') ∧ (∀ E : Option Z, E.map Sum.inr = some zz → E = some z)) → (∀ e a w, Exit.outw e = true → Q e a w → Q' e a w) →
      x.wpIn (RF r) 0 P Q' a w) : (Code.loop x).wpIn (RF r) 0 P Q a w := by
  obtain ⟨n, hn⟩ := loopQ_some hs
  refine wpIn_loop_ghost (fun n a w => ∃ s, runQ N body n s z ∧ Rel s a w) n ⟨s0, hn, h0⟩ ?_
  rintro n a w ⟨s, hi, hR⟩
  cases n with
  | zero => exact hi.elim
  | succ n =>
    refine round s a w hR _ (fun q hq => ?_) (fun e a w he hq => by cases e <;> first | exact hq | cases he)
    rcases hi q hq with h1 | ⟨s1, h1, k1⟩
    · refine ⟨_, h1, fun s' a' w' he => (by injection he with he; cases he), fun E hE => ?_⟩
      cases E with
      | none => cases hE
      | some e => injection hE with hE; injection hE with hE; rw [hE]
    · refine ⟨_, h1, fun s' a' w' he hR' => ?_, fun E hE => ?_⟩
      · injection he with he
        injection he with he
        subst he
        exact ⟨n, Nat.lt_succ_self _, s', k1, hR'⟩
      · cases E with
        | none => cases hE
        | some e => injection hE with hE; cases hE
end Go.Proofs.Ytoccfdohlefifaa
