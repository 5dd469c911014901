import Derived.Test.YtnmkonlfnpcoiaaWin
import Derived.Maps.Own
import Derived.Laws.StructEq
namespace Go.Proofs.Ytnmkonlfnpcoiaa
open Go.RowKit
structure KeyOk (P : Program) (kt : TypeId) {K : Type} [DecidableEq K] (f : K → Value) : Prop where
  chk : ∀ (e : Bool) (k : K) (w : World), (Instr.checkKey e 10000 kt (f k)).run P w = .ok () w
  eql : ∀ (k k' : K) (w : World), (Op.equal kt (f k) (f k')).run P w = .ok (decide (k = k')) w
  now : ∃ td, P.underlying kt = some td ∧ ∀ k k' : K, Instr.sameNow td (f k) (f k') = none ∨ Instr.sameNow td (f k) (f k') = some (decide (k = k'))
  stay : ∀ k : K, Instr.sameBits 10000 (f k) (f k) = true
def atM {K : Type} [DecidableEq K] (k : K) : List (K × Value) → Nat → Option (Nat × Value)
  | [], _ => none
  | p :: r, i => if k = p.1 then some (i, p.2) else atM k r (i + 1)
section
variable {P : Program} {kt : TypeId} {K : Type} [DecidableEq K] {f : K → Value} {w : World}
theorem findNow_ok (h : KeyOk P kt f) (k : K) {td : TypeDesc} (htd : ∀ k k' : K, Instr.sameNow td (f k) (f k') = none ∨ Instr.sameNow td (f k) (f k') = some (decide (k = k'))) : ∀ (es : List MapEntry) (D : List (K × Value)) (i : Nat), es.map (·.key) = D.map (fun p => f p.1) → es.map (·.val) = D.map (·.2) →
    Instr.findNow td (f k) es i = none ∨ Instr.findNow td (f k) es i = some (atM k D i)
  | [], [], i, _, _ => .inr rfl
  | [], _ :: _, i, h1, _ => by simp at h1
  | _ :: _, [], i, h1, _ => by simp at h1
  | e :: es, p :: D, i, h1, h2 => by
    simp only [List.map_cons, List.cons.injEq] at h1 h2
    unfold Instr.findNow atM
    rw [h1.1]
    rcases htd k p.1 with he | he
    · rw [he]; exact .inl rfl
    · rw [he]
      by_cases hk : k = p.1
      · rw [decide_eq_true hk, if_pos hk, h2.1]; exact .inr rfl
      · rw [decide_eq_false hk, if_neg hk]
        exact findNow_ok h k htd es D (i + 1) h1.2 h2.2
theorem findAsking_ok (h : KeyOk P kt f) (k : K) (w : World) : ∀ (es : List MapEntry) (D : List (K × Value)) (i : Nat), es.map (·.key) = D.map (fun p => f p.1) → es.map (·.val) = D.map (·.2) →
    (Instr.findAsking kt (f k) es i).run P w = .ok (atM k D i) w
  | [], [], i, _, _ => rfl
  | [], _ :: _, i, h1, _ => by simp at h1
  | _ :: _, [], i, h1, _ => by simp at h1
  | e :: es, p :: D, i, h1, h2 => by
    simp only [List.map_cons, List.cons.injEq] at h1 h2
    unfold Instr.findAsking atM
    rw [h1.1]
    simp only [Sem.run_bind, h.eql, Result.andThen_ok]
    by_cases hk : k = p.1
    · rw [decide_eq_true hk, if_pos hk, h2.1]; rfl
    · rw [decide_eq_false hk, if_neg hk]
      exact findAsking_ok h k w es D (i + 1) h1.2 h2.2
theorem findKey_ok (h : KeyOk P kt f) (k : K) (w : World) (es : List MapEntry) (D : List (K × Value)) (h1 : es.map (·.key) = D.map (fun p => f p.1)) (h2 : es.map (·.val) = D.map (·.2)) :
    (Instr.findKey kt (f k) es).run P w = .ok (atM k D 0) w := by
  obtain ⟨td, htd, hn⟩ := h.now
  unfold Instr.findKey
  simp only [Sem.run_bind, run_underlying htd, Result.andThen_ok]
  rcases findNow_ok h k hn es D 0 h1 h2 with he | he
  · rw [he]; exact findAsking_ok h k w es D 0 h1 h2
  · rw [he]; rfl
end
def Born (es : List MapEntry) (clock : Nat) : Prop := (es.map (·.born)).Pairwise (· < ·) ∧ ∀ b ∈ es.map (·.born), b < clock
theorem Born.push {es : List MapEntry} {clock : Nat} (h : Born es clock) (k v : Value) : Born (es ++ [{ key := k, val := v, born := clock }]) (clock + 1) := by
  refine ⟨?_, fun b hb => ?_⟩
  · rw [List.map_append, List.pairwise_append]
    exact ⟨h.1, by simp, fun a ha b hb => by simp at hb; subst hb; exact h.2 a ha⟩
  · rw [List.map_append, List.mem_append] at hb
    rcases hb with hb | hb
    · exact Nat.lt_succ_of_lt (h.2 b hb)
    · simp at hb; omega
theorem modify_born {es : Array MapEntry} (i : Nat) (f : MapEntry → MapEntry) (hf : ∀ e, (f e).born = e.born) : (es.modify i f).toList.map (·.born) = es.toList.map (·.born) := by
  refine List.ext_getElem? fun j => ?_
  rw [List.getElem?_map, List.getElem?_map, Array.getElem?_toList, Array.getElem?_modify, Array.getElem?_toList]
  split
  · cases es[j]? with
    | none => rfl
    | some e => simp [hf]
  · rfl
theorem Born.modify {es : Array MapEntry} {clock : Nat} (h : Born es.toList clock) (i : Nat) (f : MapEntry → MapEntry) (hf : ∀ e, (f e).born = e.born) : Born (es.modify i f).toList clock := by
  unfold Born; rw [modify_born i f hf]; exact h
def MpO {K V : Type} (own : Own) (lab : Nat) (w : World) (g : Nat) (kf : K → Value) (vf : V → Value) (D : List (K × V)) : Prop :=
  own g = lab ∧ ∃ es clock, w.heap[g]? = some (.map es clock) ∧ es.toList.map (·.key) = D.map (fun p => kf p.1) ∧ es.toList.map (·.val) = D.map (fun p => vf p.2) ∧ Born es.toList clock
section
variable {K V : Type} {own own' : Own} {lab lab2 g : Nat} {w w' : World} {kf : K → Value} {vf : V → Value} {D : List (K × V)} {T : List Nat}
theorem MpO.lt (h : MpO own lab w g kf vf D) : g < w.heap.size := by
  obtain ⟨_, es, cl, h1, _⟩ := h
  exact (Array.getElem?_eq_some_iff.1 h1).1
theorem MpO.evo (hl : lab ∉ T) (he : Evo T own own' w w') (h : MpO own lab w g kf vf D) : MpO own' lab w' g kf vf D := by
  have hlt := h.lt
  obtain ⟨h0, es, cl, h1, h2⟩ := h
  have hk := he.keep g hlt (fun hm => by rw [h0] at hm; exact (hl hm).elim)
  exact ⟨hk.1.trans h0, es, cl, hk.2.trans h1, h2⟩
theorem MpO.rl_ {mm : List (Nat × Nat)} (h : MpO own lab w g kf vf D) : MpO (rl mm own) (look mm lab) w g kf vf D := ⟨by show look mm (own g) = _; rw [h.1], h.2⟩
theorem MpO.forth_ {m : Nat → Nat} (h : MpO own lab w g kf vf D) : MpO (forth own m) (m lab) w g kf vf D := ⟨by show m (own g) = _; rw [h.1], h.2⟩
theorem MpO.back_ {m' : Nat → Nat} (h : MpO own' lab w' g kf vf D) (h0 : lab ≠ 0) : MpO (back own own' w m') (m' lab) w' g kf vf D :=
  ⟨by rw [back_new (by rw [h.1]; exact h0), h.1], h.2⟩
end
def Fct.mapAt {K V : Type} (lab g : Nat) (kf : K → Value) (vf : V → Value) (D : List (K × V)) : Fct := Fct.here lab (fun own w => MpO own lab w g kf vf D) MpO.evo
def Fct.map_ {K V : Type} (lab d : Nat) (kf : K → Value) (vf : V → Value) (D : List (K × V)) : Fct := Fct.mem (β := Nat) lab d (fun g => .map (some g)) (fun g own w => MpO own lab w g kf vf D) (fun hk he h => MpO.evo hk he h)
section
variable {P : Program} {K V : Type} [DecidableEq K] {kt vt : TypeId} {T : List Nat} {own : Own} {a : Act} {w : World} {d lab lab2 g : Nat} {x y z : Operand} {t ty t2 : TypeId} {pos : String} {after : Array Edge} {guard : Option (Nat × Bool)} {kf : K → Value} {vf : V → Value} {D : List (K × V)}
omit [DecidableEq K] in
theorem or_makeMap : OpR P ⟨some d, .makeMap t none, ty, pos, after, guard⟩ a w (Post T own a w (Fct.map_ (K := K) (V := V) lab d kf vf []) (some d)) := by
  unfold OpR Oper.wp
  have hr : (execOp a.eval ⟨some d, .makeMap t none, ty, pos, after, guard⟩).run P w = .ok (.value (.map (some w.heap.size))) (w.alloc (.map #[] 0)) := by
    simp [execOp, Instr.makeMap, Sem.run_bind, run_newObj_alloc]
  rw [hr]
  exact ⟨_, rfl, mvOwn w T lab own, Evo.ofAlloc T lab own w _, fun a' ha => ⟨w.heap.size, ha.1 d rfl, mvOwn_new (Nat.le_refl _), #[], 0, World.alloc_heap_new w _, rfl, rfl, List.Pairwise.nil, fun b hb => nomatch hb⟩⟩
theorem atM_lk (k : K) : ∀ (D : List (K × V)) (i : Nat), (atM k (D.map fun p => (p.1, vf p.2)) i).map (·.2) = (lkM D k).map vf
  | [], i => rfl
  | p :: D, i => by
    simp only [List.map_cons, atM, lkM]
    by_cases h : k = p.1
    · rw [if_pos h, if_pos h]; rfl
    · rw [if_neg h, if_neg h]; exact atM_lk k D (i + 1)
theorem run_lookup (hk : KeyOk P kt kf) (ht : P.underlying t = some (.map kt vt)) {dv : V} (hz : (zeroValue vt).run P w = .ok (vf dv) w) (h : MpO own lab w g kf vf D) (k : K) (ok : Bool) :
    (Instr.lookup t (.map (some g)) (kf k) ok).run P w = .ok (if ok then .tuple #[vf ((lkM D k).getD dv), .bool (lkM D k).isSome] else vf ((lkM D k).getD dv)) w := by
  obtain ⟨_, es, cl, h1, h2, h3, _⟩ := h
  have hg : (getObj g).run P w = .ok (.map es cl) w := by simp [getObj, Sem.run, h1]
  have hf := findKey_ok hk k w es.toList (D.map fun p => (p.1, vf p.2)) (by rw [h2, List.map_map]; rfl) (by rw [h3, List.map_map]; rfl)
  have hl := atM_lk (vf := vf) k D 0
  unfold Instr.lookup
  simp only [Sem.run_bind, run_underlying ht, Result.andThen_ok, hg, Sem.run_pure, hk.chk, hf]
  cases ha : atM k (D.map fun p => (p.1, vf p.2)) 0 with
  | none =>
    rw [ha] at hl
    have hn : lkM D k = none := by cases hq : lkM D k with
      | none => rfl
      | some v => rw [hq] at hl; cases hl
    rw [hn]
    simp only [Sem.run_bind, hz, Result.andThen_ok, Sem.run_pure]
    cases ok <;> rfl
  | some q =>
    rw [ha] at hl
    cases hq : lkM D k with
    | none => rw [hq] at hl; cases hl
    | some v =>
      rw [hq] at hl
      simp only [Option.map_some, Option.some.injEq] at hl
      simp only [Sem.run_pure, Result.andThen_ok, hl]
      cases ok <;> rfl
theorem or_lookup {k : K} {dv : V} (hk : KeyOk P kt kf) (ht : P.underlying t = some (.map kt vt)) (hz : ∀ w, (zeroValue vt).run P w = .ok (vf dv) w) (hx : a.eval x = .map (some g)) (hy : a.eval y = kf k) (h : MpO own lab w g kf vf D) :
    OpR P ⟨some d, .lookup t x y false, ty, pos, after, guard⟩ a w (Post T own a w (Fct.val d (vf ((lkM D k).getD dv))) (some d)) :=
  or_val (o := ⟨some d, .lookup t x y false, ty, pos, after, guard⟩) rfl (by
    simp only [execOp, hx, hy]
    simp [Sem.run_bind, run_lookup hk ht (hz w) h k false])
theorem or_lookupE {k : K} {dv : V} {u : V} (hk : KeyOk P kt kf) (ht : P.underlying t = some (.map kt vt)) (hz : ∀ w, (zeroValue vt).run P w = .ok (vf dv) w) (hx : a.eval x = .map (some g)) (hy : a.eval y = kf k) (h : MpO own lab w g kf vf D) (hu : (lkM D k).getD dv = u) :
    OpR P ⟨some d, .lookup t x y false, ty, pos, after, guard⟩ a w (Post T own a w (Fct.val d (vf u)) (some d)) := hu ▸ or_lookup hk ht hz hx hy h
theorem or_lookup2 {k : K} {dv : V} {u : V} {b : Bool} (hk : KeyOk P kt kf) (ht : P.underlying t = some (.map kt vt)) (hz : ∀ w, (zeroValue vt).run P w = .ok (vf dv) w) (hx : a.eval x = .map (some g)) (hy : a.eval y = kf k) (h : MpO own lab w g kf vf D) (hu : (lkM D k).getD dv = u) (hb : (lkM D k).isSome = b) :
    OpR P ⟨some d, .lookup t x y true, ty, pos, after, guard⟩ a w (Post T own a w (Fct.val d (.tuple #[vf u, .bool b])) (some d)) := by
  subst hu hb
  exact or_val (o := ⟨some d, .lookup t x y true, ty, pos, after, guard⟩) rfl (by
    simp only [execOp, hx, hy]
    simp [Sem.run_bind, run_lookup hk ht (hz w) h k true])
theorem atM_up (k : K) (v : V) : ∀ (D : List (K × V)) (i : Nat), (match atM k (D.map fun p => (p.1, vf p.2)) i with
      | some q => i ≤ q.1 ∧ q.1 - i < D.length ∧ (D[q.1 - i]?).map (·.1) = some k ∧ upM D k v = D.set (q.1 - i) (k, v)
      | none => upM D k v = D ++ [(k, v)])
  | [], i => rfl
  | p :: D, i => by
    simp only [List.map_cons, atM, upM]
    by_cases h : k = p.1
    · rw [if_pos h, if_pos h]
      simp [h]
    · rw [if_neg h, if_neg h]
      have ih := atM_up k v D (i + 1)
      cases ha : atM k (D.map fun p => (p.1, vf p.2)) (i + 1) with
      | none => rw [ha] at ih; simp only at ih ⊢; rw [ih]; rfl
      | some q =>
        rw [ha] at ih
        simp only at ih ⊢
        obtain ⟨h1, h2, h3, h4⟩ := ih
        obtain ⟨m, hm⟩ : ∃ m, q.1 - i = m + 1 := ⟨q.1 - (i + 1), by omega⟩
        have hm' : q.1 - (i + 1) = m := by omega
        rw [hm'] at h2 h3 h4
        rw [hm]
        exact ⟨by omega, by simpa using h2, by simpa using h3, by rw [h4]; rfl⟩
omit [DecidableEq K] in
theorem MpO.set_ {es : Array MapEntry} {cl : Nat} (h : MpO own lab w g kf vf D) (hT : lab ∈ T) (h0 : lab ≠ 0) {D' : List (K × V)} (h1 : es.toList.map (·.key) = D'.map (fun p => kf p.1)) (h2 : es.toList.map (·.val) = D'.map (fun p => vf p.2)) (h3 : Born es.toList cl) :
    Evo T own (mvOwn w T lab2 own) w { w with heap := w.heap.setIfInBounds g (.map es cl) } ∧ MpO (mvOwn w T lab2 own) lab2 { w with heap := w.heap.setIfInBounds g (.map es cl) } g kf vf D' := by
  have hlt := h.lt
  refine ⟨Evo.mv T lab2 own rfl rfl rfl (by simp) fun b hb hn => ?_, mvOwn_struck (by rw [h.1]; exact hT) (by rw [h.1]; exact h0), es, cl, by simp [hlt], h1, h2, h3⟩
  have hne : b ≠ g := fun e => by subst e; rw [h.1] at hn; exact h0 (hn hT)
  simp [Array.getElem?_setIfInBounds_ne (Ne.symm hne)]
theorem or_mapUpdateE {k : K} {v : V} {D' : List (K × V)} {f : Fct} {dst : Option Tmp} (hk : KeyOk P kt kf) (ht : P.underlying t = some (.map kt vt)) (hx : a.eval x = .map (some g)) (hy : a.eval y = kf k) (hv : a.eval z = vf v) (h : MpO own lab w g kf vf D) (hD : upM D k v = D') (hT : lab ∈ T) (h0 : lab ≠ 0)
    (hf : ∀ (own' : Own) (a' : Act) (w' : World), Evo T own own' w w' → MpO own' lab2 w' g kf vf D' → f.p own' a' w') :
    OpR P ⟨dst, .mapUpdate t x y z, ty, pos, after, guard⟩ a w (Post T own a w f dst) := by
  subst hD
  have h' := h
  obtain ⟨_, es, cl, h1, h2, h3, hB⟩ := h'
  have hg : (getObj g).run P w = .ok (.map es cl) w := by simp [getObj, Sem.run, h1]
  have hs : ∀ o, (setObj g o).run P w = .ok () { w with heap := w.heap.setIfInBounds g o } := fun o => by simp [setObj, Sem.run, h1]
  have hfk := findKey_ok hk k w es.toList (D.map fun p => (p.1, vf p.2)) (by rw [h2, List.map_map]; rfl) (by rw [h3, List.map_map]; rfl)
  have hu := atM_up (vf := vf) k v D 0
  have hlen : es.size = D.length := by have := congrArg List.length h2; simpa using this
  unfold OpR Oper.wp
  cases ha : atM k (D.map fun p => (p.1, vf p.2)) 0 with
  | none =>
    rw [ha] at hu hfk
    simp only at hu
    have hr : (execOp a.eval ⟨dst, .mapUpdate t x y z, ty, pos, after, guard⟩).run P w = .ok .skip { w with heap := w.heap.setIfInBounds g (.map (es.push { key := kf k, val := vf v, born := cl }) (cl + 1)) } := by
      simp only [execOp, hx, hy, hv, Instr.mapUpdate]
      simp [Sem.run_bind, run_underlying ht, hg, hk.chk, hfk, hs, Result.andThen]
    rw [hr]
    obtain ⟨g1, g2⟩ := h.set_ (T := T) (lab2 := lab2) (es := es.push { key := kf k, val := vf v, born := cl }) (cl := cl + 1) hT h0 (D' := upM D k v) (by rw [hu]; simp [h2]) (by rw [hu]; simp [h3]) (by rw [Array.toList_push]; exact hB.push _ _)
    exact ⟨_, rfl, _, g1, fun a' _ => hf _ a' _ g1 g2⟩
  | some q =>
    rw [ha] at hu hfk
    simp only [Nat.sub_zero] at hu
    obtain ⟨_, q2, q3, q4⟩ := hu
    have hqe : q.1 < es.size := by omega
    have hkey : (es[q.1]?).map (·.key) = some (kf k) := by
      have e1 : (es.toList.map (·.key))[q.1]? = (D.map (fun p => kf p.1))[q.1]? := by rw [h2]
      rw [List.getElem?_map, List.getElem?_map] at e1
      rw [show es[q.1]? = es.toList[q.1]? by simp, e1]
      cases hd : D[q.1]? with
      | none => rw [hd] at q3; cases q3
      | some p => rw [hd] at q3; simp only [Option.map_some, Option.some.injEq] at q3; rw [Option.map_some, q3]
    have hr : (execOp a.eval ⟨dst, .mapUpdate t x y z, ty, pos, after, guard⟩).run P w = .ok .skip { w with heap := w.heap.setIfInBounds g (.map (es.modify q.1 fun e => { e with key := kf k, val := vf v }) cl) } := by
      simp only [execOp, hx, hy, hv, Instr.mapUpdate]
      simp [Sem.run_bind, run_underlying ht, hg, hk.chk, hfk, hs, Result.andThen, hkey, Instr.keyThatStays, hk.stay]
    rw [hr]
    have hm : ∀ (F : MapEntry → Value) (G : K × V → Value), es.toList.map F = D.map G → F { (es[q.1]'hqe) with key := kf k, val := vf v } = G (k, v) → (es.modify q.1 fun e => { e with key := kf k, val := vf v }).toList.map F = (D.set q.1 (k, v)).map G := fun F G e1 e2 => by
      refine List.ext_getElem? fun i => ?_
      rw [List.getElem?_map, List.getElem?_map, List.getElem?_set]
      have e3 : es.toList[i]?.map F = D[i]?.map G := by rw [← List.getElem?_map, ← List.getElem?_map, e1]
      have e4 : (es.modify q.1 fun e => { e with key := kf k, val := vf v }).toList[i]? = if q.1 = i then (es[i]?).map (fun e => { e with key := kf k, val := vf v }) else es[i]? := by
        rw [Array.getElem?_toList, Array.getElem?_modify]
      rw [e4]
      by_cases hi : q.1 = i
      · subst hi
        rw [if_pos rfl, if_pos rfl, if_pos q2, Array.getElem?_eq_getElem hqe]
        simpa using e2
      · rw [if_neg hi, if_neg hi]
        simpa using e3
    obtain ⟨g1, g2⟩ := h.set_ (T := T) (lab2 := lab2) (es := es.modify q.1 fun e => { e with key := kf k, val := vf v }) (cl := cl) hT h0 (D' := upM D k v) (by rw [q4]; exact hm _ _ h2 rfl) (by rw [q4]; exact hm _ _ h3 rfl) (hB.modify _ _ fun _ => rfl)
    exact ⟨_, rfl, _, g1, fun a' _ => hf _ a' _ g1 g2⟩
theorem or_mapUpdate {k : K} {v : V} {D' : List (K × V)} {f : Fct} {dst : Option Tmp} (hk : KeyOk P kt kf) (ht : P.underlying t = some (.map kt vt)) (hx : a.eval x = .map (some g)) (hy : a.eval y = kf k) (hv : a.eval z = vf v) (h : MpO own lab w g kf vf D) (hD : upM D k v = D') (hT : lab ∈ T) (h0 : lab ≠ 0)
    (hf : ∀ (own' : Own) (a' : Act) (w' : World), MpO own' lab2 w' g kf vf D' → f.p own' a' w') :
    OpR P ⟨dst, .mapUpdate t x y z, ty, pos, after, guard⟩ a w (Post T own a w f dst) := or_mapUpdateE hk ht hx hy hv h hD hT h0 fun own' a' w' _ h => hf own' a' w' h
end
section
variable {P : Program} {t : TypeId} {w : World}
theorem beqS (n m : ByteArray) : (n == m) = decide (n = m) := by
  rw [Bool.eq_iff_iff, decide_eq_true_iff]
  obtain ⟨n⟩ := n
  obtain ⟨m⟩ := m
  show ((n == m) = true) ↔ _
  rw [beq_iff_eq]
  constructor
  · intro h; rw [h]
  · intro h; injection h
theorem ck_int {k : IntKind} (h : P.underlying t = some (.int k)) (e : Bool) (d : Nat) (n : Int) : (Instr.checkKey e (d + 1) t (.int k n)).run P w = .ok () w := by
  unfold Instr.checkKey; simp [run_underlying h, Sem.run_bind, Result.andThen]
theorem ck_str (h : P.underlying t = some .string) (e : Bool) (d : Nat) (n : ByteArray) : (Instr.checkKey e (d + 1) t (.string n)).run P w = .ok () w := by
  unfold Instr.checkKey; simp [run_underlying h, Sem.run_bind, Result.andThen]
theorem eq_str (h : P.underlying t = some .string) (d : Nat) (n m : ByteArray) : (Op.equalIn (d + 1) t (.string n) (.string m)).run P w = .ok (decide (n = m)) w := by
  unfold Op.equalIn; simp [run_underlying h, Sem.run_bind, Result.andThen, beqS]
theorem sb_str (d : Nat) (n : ByteArray) : Instr.sameBits d (.string n) (.string n) = true := by cases d <;> simp [Instr.sameBits, beqS]
def chkF (e : Bool) (d : Nat) (xs : Array Value) : List Field → Sem Unit
  | [] => pure ()
  | f :: fs =>
    if f.name ≠ "_" then do
      let a ← part f.type xs f.offset
      Instr.checkKey e d f.type a
      chkF e d xs fs
    else chkF e d xs fs
theorem run_checkKey_struct (e : Bool) (d : Nat) (t : TypeId) (xs : Array Value) (ht : P.underlying t = some (.struct (P.fieldsOf t))) (w : World) :
    (Instr.checkKey e (d + 1) t (.agg xs)).run P w = (chkF e d xs (P.fieldsOf t).toList).run P w := by
  unfold Instr.checkKey
  simp only [Sem.run_bind, run_underlying ht, Result.andThen_ok]
  rw [← Array.forIn_toList]
  generalize (P.fieldsOf t).toList = fs
  clear ht
  induction fs generalizing w with
  | nil => simp [chkF]
  | cons f fs ih =>
    simp only [List.forIn_cons, chkF, Sem.run_bind, Sem.run_ite]
    split
    · generalize (part f.type xs f.offset).run P w = r1
      cases r1 with
      | ok a w1 =>
        simp only [Result.andThen_ok]
        generalize (Instr.checkKey e d f.type a).run P w1 = r2
        cases r2 with
        | ok b w2 => simp only [Result.andThen_ok, Sem.run_pure]; exact ih w2
        | halt x w2 => simp [Result.andThen]
      | halt x w1 => simp [Result.andThen]
    · simp only [Sem.run_pure, Result.andThen_ok]
      exact ih w
theorem eql_of_bin {b : Bool} {xs ys : Array Value} (h : (binOp .eql t (.agg xs) (.agg ys)).run P w = .ok (.bool b) w) : (Op.equal t (.agg xs) (.agg ys)).run P w = .ok b w := by
  rw [run_eql_struct] at h
  have e : (Op.equal t (.agg xs) (.agg ys)).run P w = (Op.equalIn 10000 t (.agg xs) (.agg ys)).run P w := rfl
  rw [e]
  cases hr : (Op.equalIn 10000 t (.agg xs) (.agg ys)).run P w with
  | ok b' w' =>
    rw [hr] at h
    simp only [Result.andThen] at h
    injection h with h1 h2
    injection h1 with h1
    rw [h1, h2]
  | halt x w' => rw [hr] at h; cases h
theorem zeroValue_of {z : Value} (h : (P.info? t).map (·.zero) = some (some z)) (w : World) : (zeroValue t).run P w = .ok z w := by
  cases hi : P.info? t with
  | none => rw [hi] at h; cases h
  | some i => rw [hi] at h; simp only [Option.map_some, Option.some.injEq] at h; simp [zeroValue, typeInfo, hi, h]
theorem ko_str (h : P.underlying t = some .string) : KeyOk P t (fun s : ByteArray => .string s) :=
  ⟨fun e n w => ck_str h e 9999 n, fun n m w => eq_str h 9999 n m, ⟨_, h, fun n m => .inr (by simp only [Instr.sameNow, beqS])⟩, fun n => sb_str _ _⟩
end
end Go.Proofs.Ytnmkonlfnpcoiaa
