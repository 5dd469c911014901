import Derived.Test.YtoccfdohlefifaaMap
namespace Go.Proofs.Ytoccfdohlefifaa
open Go.RowKit
section
variable {K V : Type} [DecidableEq K]
def ixM (k : K) : List K → Nat
  | [] => 0
  | x :: r => if k = x then 0 else ixM k r + 1
theorem ixM_le (k : K) : ∀ ks : List K, ixM k ks ≤ ks.length
  | [] => Nat.le_refl _
  | x :: r => by
    unfold ixM
    split
    · exact Nat.zero_le _
    · have := ixM_le k r; simp; omega
theorem up_get (k : K) (v : V) : ∀ (D : List (K × V)) (j : Nat), (upM D k v)[j]? = if j = ixM k (D.map (·.1)) then some (k, v) else D[j]?
  | [], j => by
    cases j with
    | zero => simp [upM, ixM]
    | succ j => simp [upM, ixM]
  | p :: D, j => by
    simp only [upM, List.map_cons, ixM]
    by_cases h : k = p.1
    · rw [if_pos h, if_pos h]
      cases j with
      | zero => simp
      | succ j => simp
    · rw [if_neg h, if_neg h]
      cases j with
      | zero => simp
      | succ j =>
        rw [List.getElem?_cons_succ, List.getElem?_cons_succ, up_get k v D j]
        simp
theorem up_len (k : K) (v : V) : ∀ (D : List (K × V)), (upM D k v).length = max D.length (ixM k (D.map (·.1)) + 1)
  | [] => rfl
  | p :: D => by
    simp only [upM, List.map_cons, ixM]
    by_cases h : k = p.1
    · rw [if_pos h, if_pos h]; simp
    · rw [if_neg h, if_neg h, List.length_cons, up_len k v D, List.length_cons]
      omega
theorem lk_get (k : K) : ∀ (D : List (K × V)), lkM D k = (D[ixM k (D.map (·.1))]?).map (·.2)
  | [] => rfl
  | p :: D => by
    simp only [lkM, List.map_cons, ixM]
    by_cases h : k = p.1
    · rw [if_pos h, if_pos h]; rfl
    · rw [if_neg h, if_neg h, lk_get k D]; rfl
theorem up_get2 (k : K) (v : V) (D : List (K × V)) (j : Nat) : ((upM D k v).map (·.2))[j]? = if j = ixM k (D.map (·.1)) then some v else (D.map (·.2))[j]? := by
  rw [List.getElem?_map, up_get, List.getElem?_map]
  split <;> rfl
theorem up_keys (k : K) {W : Type} (v : V) (u : W) (D : List (K × V)) (E : List (K × W)) (h : D.map (·.1) = E.map (·.1)) : (upM D k v).map (·.1) = (upM E k u).map (·.1) := by
  refine List.ext_getElem? fun j => ?_
  rw [List.getElem?_map, up_get, List.getElem?_map, up_get, h]
  have e := congrArg (fun q => q[j]?) h
  simp only [List.getElem?_map] at e
  split
  · rfl
  · exact e
end
section
variable {K α : Type} [DecidableEq K]
def MpN (own : Own) (lab labE : Nat) (L : List Nat) (w : World) (g : Nat) (kf : K → Value) (e2 : TypeId) (R : Rep α) (D : List (K × List α)) : Prop :=
  ∃ (ys : List AC) (Dv : List (K × Value)), MpO own lab w g kf (fun v : Value => v) Dv ∧ Dv.map (·.1) = D.map (·.1) ∧ Els own labE L w e2 R (Dv.map (·.2)) (D.map (·.2)) ys none
def Stamp (w : World) (g n b : Nat) : Prop := ∃ es clock e, w.heap[g]? = some (.map es clock) ∧ es[n]? = some e ∧ e.born = b
abbrev nilS : Value := .slice none 0 0
def Ment (own : Own) (lab : Nat) (w : World) (g : Nat) (kf : K → Value) (Dv : List (K × Value)) (k : K) (ys : List AC) (y : AC × Nat) : Prop :=
  MpO own lab w g kf (fun v : Value => v) (upM Dv k ((lkM Dv k).getD nilS)) ∧ Stamp w g (ixM k (Dv.map (·.1))) y.2 ∧ (ys[ixM k (Dv.map (·.1))]? = some y.1 ∨ (ys.length = ixM k (Dv.map (·.1)) ∧ y.1 = (none, 0)))
variable {R : Rep α} {own own' : Own} {w w' : World} {lab labE lab2 : Nat} {L L2 L3 T : List Nat} {e2 : TypeId} {g : Nat} {kf : K → Value} {D : List (K × List α)} {k : K} {y : AC × Nat} {z : AC} {r : List α} {b : Nat} {ys : List AC} {Dv : List (K × Value)}
omit [DecidableEq K] in
theorem MpN.evo (hl : hits T (lab :: labE :: L) = false) (he : Evo T own own' w w') (h : MpN own lab labE L w g kf e2 R D) : MpN own' lab labE L w' g kf e2 R D := by
  obtain ⟨ys, Dv, h1, h2, h3⟩ := h
  exact ⟨ys, Dv, h1.evo (hits_cons hl).1 he, h2, h3.evo (hits_cons hl).2 he⟩
omit [DecidableEq K] in
theorem Stamp.evo {V : Type} {vf : V → Value} {Dv : List (K × V)} {n : Nat} (hl : lab ∉ T) (he : Evo T own own' w w') (h : MpO own lab w g kf vf Dv) (hs : Stamp w g n b) : Stamp w' g n b := by
  obtain ⟨es, cl, e, h1, h2⟩ := hs
  exact ⟨es, cl, e, (he.keep g h.lt (fun hm => by rw [h.1] at hm; exact (hl hm).elim)).2.trans h1, h2⟩
theorem Ment.evo (hl : lab ∉ T) (he : Evo T own own' w w') (h : Ment own lab w g kf Dv k ys y) : Ment own' lab w' g kf Dv k ys y :=
  ⟨h.1.evo hl he, Stamp.evo hl he h.1 h.2.1, h.2.2⟩
theorem Els.forth_ {vals : List Value} {l : List (List α)} {ys : List AC} {h : Option Nat} {m : Nat → Nat} (h2 : Els own labE L w e2 R vals l ys h) : Els (forth own m) (m labE) (L.map m) w e2 R vals l ys h :=
  ⟨h2.1, h2.2.1, fun j x y h3 h4 => ⟨(h2.2.2.1 j x y h3 h4).1, (h2.2.2.1 j x y h3 h4).2.forth_⟩, h2.2.2.2⟩
omit [DecidableEq K] in
theorem MpN.forth_ {m : Nat → Nat} (h : MpN own lab labE L w g kf e2 R D) : MpN (forth own m) (m lab) (m labE) (L.map m) w g kf e2 R D := by
  obtain ⟨ys, Dv, h1, h2, h3⟩ := h
  exact ⟨ys, Dv, h1.forth_, h2, h3.forth_⟩
omit [DecidableEq K] in
theorem MpN.rl_ {mm : List (Nat × Nat)} (h : MpN own lab labE L w g kf e2 R D) : MpN (rl mm own) (look mm lab) (look mm labE) (L.map (look mm)) w g kf e2 R D := h.forth_ (m := look mm)
omit [DecidableEq K] in
theorem MpN.more (h : MpN own lab labE L w g kf e2 R D) (hL : ∀ x ∈ L, x ∈ L2) : MpN own lab labE L2 w g kf e2 R D := by
  obtain ⟨ys, Dv, h1, h2, h3⟩ := h
  exact ⟨ys, Dv, h1, h2, h3.1, h3.2.1, fun j x y h4 h5 => ⟨(h3.2.2.1 j x y h4 h5).1, (h3.2.2.1 j x y h4 h5).2.more hL⟩, h3.2.2.2⟩
omit [DecidableEq K] in
theorem MpN.zero_ (h : MpN own lab labE L w g kf e2 R D) : MpN (fun _ => 0) 0 0 [0] w g kf e2 R D :=
  (h.forth_ (m := fun _ => 0)).more (fun x hx => by simp at hx; simp [hx])
omit [DecidableEq K] in
theorem MpN.back_ {m' : Nat → Nat} (h : MpN own' lab labE L w' g kf e2 R D) (h0 : lab ≠ 0) (hE0 : labE ≠ 0) (hL : R.Flat ∨ 0 ∉ L) : MpN (back own own' w m') (m' lab) (m' labE) (L.map m') w' g kf e2 R D := by
  obtain ⟨ys, Dv, h1, h2, h3⟩ := h
  exact ⟨ys, Dv, h1.back_ h0, h2, h3.1, h3.2.1, fun j x y h4 h5 => ⟨(h3.2.2.1 j x y h4 h5).1, (h3.2.2.1 j x y h4 h5).2.back_ hE0 hL⟩, h3.2.2.2⟩
def Fct.mapnAt (lab labE : Nat) (L : List Nat) (g : Nat) (kf : K → Value) (e2 : TypeId) (R : Rep α) (D : List (K × List α)) : Fct := Fct.heres (lab :: labE :: L) (fun own w => MpN own lab labE L w g kf e2 R D) MpN.evo
def Fct.mapn_ (lab labE : Nat) (L : List Nat) (d : Nat) (kf : K → Value) (e2 : TypeId) (R : Rep α) (D : List (K × List α)) : Fct := Fct.mems (β := Nat) (lab :: labE :: L) d (fun g => .map (some g)) (fun g own w => MpN own lab labE L w g kf e2 R D) MpN.evo
def Fct.elsAt (labE : Nat) (L : List Nat) (e2 : TypeId) (R : Rep α) (D : List (K × List α)) (ys : List AC) (Dv : List (K × Value)) : Fct := Fct.heres (labE :: L) (fun own w => Els own labE L w e2 R (Dv.map (·.2)) (D.map (·.2)) ys none) Els.evo
def Fct.ment (lab d g : Nat) (kf : K → Value) (Dv : List (K × Value)) (k : K) (ys : List AC) (x : List α) : Fct := Fct.mem (β := AC × Nat) lab d (fun y => .tuple #[.slice y.1.1 x.length y.1.2, .int .i64 (y.2 : Int)]) (fun y own w => Ment own lab w g kf Dv k ys y) (fun hk he h => Ment.evo hk he h)
def Hole (own : Own) (labE : Nat) (L : List Nat) (w : World) (e2 : TypeId) (R : Rep α) (D : List (K × List α)) (Dv : List (K × Value)) (k : K) (r : List α) (y : AC × List AC) : Prop :=
  Els own labE L w e2 R ((upM Dv k ((lkM Dv k).getD nilS)).map (·.2)) ((upM D k r).map (·.2)) y.2 (some (ixM k (D.map (·.1)))) ∧ y.2[ixM k (D.map (·.1))]? = some y.1
theorem Hole.evo {y : AC × List AC} (hl : hits T (labE :: L) = false) (he : Evo T own own' w w') (h : Hole own labE L w e2 R D Dv k r y) : Hole own' labE L w' e2 R D Dv k r y := ⟨h.1.evo hl he, h.2⟩
def Fct.mhole (labE : Nat) (L : List Nat) (d : Nat) (e2 : TypeId) (R : Rep α) (D : List (K × List α)) (Dv : List (K × Value)) (k : K) (r : List α) : Fct := Fct.mems (β := AC × List AC) (labE :: L) d (fun y => .slice y.1.1 r.length y.1.2) (fun y own w => Hole own labE L w e2 R D Dv k r y) Hole.evo
variable {P : Program} {a : Act} {d : Nat} {kt vt : TypeId} {x u v : Operand} {t ty : TypeId} {pos : String} {after : Array Edge} {guard : Option (Nat × Bool)} {A2 : Option Addr} {c2 : Nat} {bytes : Nat}
omit [DecidableEq K] in
theorem or_makeMapN : OpR P ⟨some d, .makeMap t none, ty, pos, after, guard⟩ a w (Post T own a w (Fct.mapn_ (K := K) lab labE L d kf e2 R []) (some d)) := by
  unfold OpR Oper.wp
  have hr : (execOp a.eval ⟨some d, .makeMap t none, ty, pos, after, guard⟩).run P w = .ok (.value (.map (some w.heap.size))) (w.alloc (.map #[] 0)) := by
    simp [execOp, Instr.makeMap, Sem.run_bind, run_newObj_alloc]
  rw [hr]
  exact ⟨_, rfl, mvOwn w T lab own, Evo.ofAlloc T lab own w _, fun a' ha => ⟨w.heap.size, ha.1 d rfl, [], [], ⟨mvOwn_new (Nat.le_refl _), #[], 0, World.alloc_heap_new w _, rfl, rfl, List.Pairwise.nil, fun b hb => nomatch hb⟩, rfl, rfl, rfl, fun j x y h => by simp at h, fun i j y z _ h => by simp at h⟩⟩
theorem mpn_at {n : Nat} {xl : List α} {vals : List Value} {l : List (List α)} {ys : List AC} (hh : Els own labE L w e2 R vals l ys none) (hx : l[n]? = some xl) : ∃ y, ys[n]? = some y ∧ vals[n]? = some (.slice y.1 xl.length y.2) ∧ RwO own labE L w e2 R y.1 y.2 xl := by
  have hn : n < ys.length := by rw [hh.2.1]; exact (List.getElem?_eq_some_iff.1 hx).1
  have hy : ys[n]? = some ys[n] := List.getElem?_eq_getElem hn
  obtain ⟨k1, k2⟩ := hh.2.2.1 n xl _ hx hy
  exact ⟨_, hy, k1 (by simp), k2⟩
theorem mpn_read {Dv : List (K × Value)} {ys : List AC} (h2 : Dv.map (·.1) = D.map (·.1)) (h3 : Els own labE L w e2 R (Dv.map (·.2)) (D.map (·.2)) ys none) (k : K) :
    (∃ y : AC, ixM k (D.map (·.1)) < D.length ∧ ys[ixM k (D.map (·.1))]? = some y ∧ (D.map (·.2))[ixM k (D.map (·.1))]? = some ((lkM D k).getD []) ∧ (lkM Dv k).getD (.slice none 0 0) = .slice y.1 ((lkM D k).getD []).length y.2 ∧ RwO own labE L w e2 R y.1 y.2 ((lkM D k).getD [])) ∨
    (ixM k (D.map (·.1)) = D.length ∧ lkM D k = none ∧ lkM Dv k = none) := by
  have hle := ixM_le k (D.map (·.1))
  rw [List.length_map] at hle
  rcases Nat.lt_or_ge (ixM k (D.map (·.1))) D.length with hlt | hge
  · left
    have hx : (D.map (·.2))[ixM k (D.map (·.1))]? = some ((lkM D k).getD []) := by
      rw [lk_get, List.getElem?_map, List.getElem?_eq_getElem hlt]; rfl
    obtain ⟨y, q1, q2, q3⟩ := mpn_at h3 hx
    refine ⟨y, hlt, q1, hx, ?_, q3⟩
    rw [lk_get k Dv, h2, ← List.getElem?_map, q2]; rfl
  · right
    have he : ixM k (D.map (·.1)) = D.length := by omega
    refine ⟨he, ?_, ?_⟩
    · rw [lk_get, List.getElem?_eq_none (by omega)]; rfl
    · have hl : Dv.length = D.length := by have := congrArg List.length h2; simpa using this
      rw [lk_get, h2, List.getElem?_eq_none (by omega)]; rfl
theorem or_mview {ul : List α} (hk : KeyOk P kt kf) (ht : P.underlying t = some (.map kt vt)) (hz : ∀ w, (zeroValue vt).run P w = .ok (.slice none 0 0) w) (hx : a.eval x = .map (some g)) (hu : a.eval u = kf k) (h : MpN own lab labE L w g kf e2 R D) (he : (lkM D k).getD [] = ul) :
    OpR P ⟨some d, .lookup t x u false, ty, pos, after, guard⟩ a w (Post T own a w (Fct.view (labE :: L) d R ul) (some d)) := by
  subst he
  obtain ⟨ys, Dv, h1, h2, h3⟩ := h
  unfold OpR Oper.wp
  have hr : (execOp a.eval ⟨some d, .lookup t x u false, ty, pos, after, guard⟩).run P w = .ok (.value ((lkM Dv k).getD (.slice none 0 0))) w := by
    simp only [execOp, hx, hu]
    simp [Sem.run_bind, run_lookup (vf := fun v : Value => v) (dv := .slice none 0 0) hk ht (hz w) h1 k false]
  rw [hr]
  refine ⟨_, rfl, own, Evo.refl _ _ _, fun a' ha => ?_⟩
  rcases mpn_read h2 h3 k with ⟨y, q1, q2, q3, q4, q5⟩ | ⟨q1, q2, q3⟩
  · exact ⟨y, (ha.1 d rfl).trans q4, q5.rd⟩
  · exact ⟨(none, 0), by rw [ha.1 d rfl, q3, q2]; rfl, by rw [q2]; exact RdO.nil_⟩
theorem run_mapEntry (hk : KeyOk P kt kf) (ht : P.underlying t = some (.map kt vt)) {dv : Value} (hz : (zeroValue vt).run P w = .ok dv w) {Dv : List (K × Value)} (h : MpO own lab w g kf (fun v : Value => v) Dv) (k : K) (hT : lab ∈ T) (h0 : lab ≠ 0) :
    ∃ w' b, (Instr.mapEntry t (.map (some g)) (kf k)).run P w = .ok (.tuple #[(lkM Dv k).getD dv, .int .i64 ((b : Nat) : Int)]) w' ∧ Evo T own (mvOwn w T lab2 own) w w' ∧ MpO (mvOwn w T lab2 own) lab2 w' g kf (fun v : Value => v) (upM Dv k ((lkM Dv k).getD dv)) ∧ Stamp w' g (ixM k (Dv.map (·.1))) b := by
  have h' := h
  obtain ⟨_, es, cl, h1, h2, h3, hB⟩ := h'
  have hg : (getObj g).run P w = .ok (.map es cl) w := by simp [getObj, Sem.run, h1]
  have hs : ∀ o, (setObj g o).run P w = .ok () { w with heap := w.heap.setIfInBounds g o } := fun o => by simp [setObj, Sem.run, h1]
  have hfk := findKey_ok hk k w es.toList (Dv.map fun p => (p.1, p.2)) (by rw [h2, List.map_map]; rfl) (by rw [h3, List.map_map]; rfl)
  have hu := atM_up (vf := fun v : Value => v) k ((lkM Dv k).getD dv) Dv 0
  have hl := atM_lk (vf := fun v : Value => v) k Dv 0
  have hlen : es.size = Dv.length := by have := congrArg List.length h2; simpa using this
  have hget : ∀ o : Obj, ({ w with heap := w.heap.setIfInBounds g o } : World).heap[g]? = some o := fun o => by simp [h.lt]
  cases ha : atM k (Dv.map fun p => (p.1, p.2)) 0 with
  | none =>
    rw [ha] at hu hfk hl
    simp only at hu
    have hn : lkM Dv k = none := by cases hq : lkM Dv k with
      | none => rfl
      | some v => rw [hq] at hl; cases hl
    rw [hn] at hu
    simp only [Option.getD_none] at hu
    have hr : (Instr.mapEntry t (.map (some g)) (kf k)).run P w = .ok (.tuple #[dv, .int .i64 ((cl : Nat) : Int)]) { w with heap := w.heap.setIfInBounds g (.map (es.push { key := kf k, val := dv, born := cl }) (cl + 1)) } := by
      simp [Instr.mapEntry, Sem.run_bind, run_underlying ht, hg, hk.chk, hfk, hs, Result.andThen, hz, goInt]
    obtain ⟨g1, g2⟩ := h.set_ (T := T) (lab2 := lab2) (es := es.push { key := kf k, val := dv, born := cl }) (cl := cl + 1) hT h0 (D' := upM Dv k dv) (by rw [hu]; simp [h2]) (by rw [hu]; simp [h3]) (by rw [Array.toList_push]; exact hB.push _ _)
    rw [hn]
    refine ⟨_, cl, hr, g1, g2, _, _, { key := kf k, val := dv, born := cl }, hget _, ?_, rfl⟩
    have he : ixM k (Dv.map (·.1)) = es.size := by
      have e1 := up_len k dv Dv
      rw [hu] at e1
      have e2 := ixM_le k (Dv.map (·.1))
      simp at e1 e2
      omega
    rw [he]; simp
  | some q =>
    rw [ha] at hu hfk hl
    simp only [Nat.sub_zero] at hu
    obtain ⟨_, q2, q3, q4⟩ := hu
    have hqe : q.1 < es.size := by omega
    obtain ⟨v, hv⟩ : ∃ v, lkM Dv k = some v := by cases hq : lkM Dv k with
      | none => rw [hq] at hl; cases hl
      | some v => exact ⟨v, rfl⟩
    rw [hv] at hl q4
    simp only [Option.map_some, Option.some.injEq, Option.getD_some] at hl q4
    have hkey : (es[q.1]?).map (·.key) = some (kf k) := by
      have e1 : (es.toList.map (·.key))[q.1]? = (Dv.map (fun p => kf p.1))[q.1]? := by rw [h2]
      rw [List.getElem?_map, List.getElem?_map] at e1
      rw [show es[q.1]? = es.toList[q.1]? by simp, e1]
      cases hd : Dv[q.1]? with
      | none => rw [hd] at q3; cases q3
      | some p => rw [hd] at q3; simp only [Option.map_some, Option.some.injEq] at q3; rw [Option.map_some, q3]
    have hix : ixM k (Dv.map (·.1)) = q.1 := by
      by_cases hne : q.1 = ixM k (Dv.map (·.1))
      · exact hne.symm
      · exfalso
        have e1 := up_get k v Dv (ixM k (Dv.map (·.1)))
        rw [if_pos rfl, q4, List.getElem?_set, if_neg hne] at e1
        have e4 : ∀ (ks : List K) (j : Nat), ks[j]? = some k → ixM k ks ≤ j := by
          intro ks
          induction ks with
          | nil => intro j hj; simp at hj
          | cons x r ih =>
            intro j hj
            unfold ixM
            split
            · exact Nat.zero_le _
            · rename_i hx
              cases j with
              | zero => simp at hj; exact (hx hj.symm).elim
              | succ j => have := ih j (by simpa using hj); omega
        have e5 := e4 (Dv.map (·.1)) q.1 (by rw [List.getElem?_map]; exact q3)
        have e6 : lkM Dv k = some v := hv
        rw [lk_get] at e6
        -- the first place of the key: atM finds it
        have e7 : ∀ (E : List (K × Value)) (i : Nat) (p : Nat × Value), atM k E i = some p → p.1 = i + ixM k (E.map (·.1)) := by
          intro E
          induction E with
          | nil => intro i p hp; cases hp
          | cons x r ih =>
            intro i p hp
            unfold atM at hp
            simp only [List.map_cons, ixM]
            split at hp
            · rename_i hx; rw [if_pos hx]; injection hp with hp; subst hp; rfl
            · rename_i hx; rw [if_neg hx]; have := ih (i + 1) p hp; omega
        have e8 := e7 _ 0 q ha
        rw [List.map_map] at e8
        exact hne (by rw [e8, Nat.zero_add]; rfl)
    have hkey' : (es[q.1]'hqe).key = kf k := by rw [Array.getElem?_eq_getElem hqe] at hkey; simpa using hkey
    have hr : (Instr.mapEntry t (.map (some g)) (kf k)).run P w = .ok (.tuple #[v, .int .i64 (((es[q.1]'hqe).born : Nat) : Int)]) { w with heap := w.heap.setIfInBounds g (.map (es.modify q.1 fun e => { e with key := kf k }) cl) } := by
      simp [Instr.mapEntry, Sem.run_bind, run_underlying ht, hg, hk.chk, hfk, hs, Result.andThen, hkey', Instr.keyThatStays, hk.stay, goInt, hl, Array.getElem?_eq_getElem hqe]
    have hm : ∀ (F : MapEntry → Value) (G : K × Value → Value), es.toList.map F = Dv.map G → F { (es[q.1]'hqe) with key := kf k } = G (k, v) → (es.modify q.1 fun e => { e with key := kf k }).toList.map F = (Dv.set q.1 (k, v)).map G := fun F G e1 e2 => by
      refine List.ext_getElem? fun i => ?_
      rw [List.getElem?_map, List.getElem?_map, List.getElem?_set]
      have e3 : es.toList[i]?.map F = Dv[i]?.map G := by rw [← List.getElem?_map, ← List.getElem?_map, e1]
      have e4 : (es.modify q.1 fun e => { e with key := kf k }).toList[i]? = if q.1 = i then (es[i]?).map (fun e => { e with key := kf k }) else es[i]? := by
        rw [Array.getElem?_toList, Array.getElem?_modify]
      rw [e4]
      by_cases hi : q.1 = i
      · subst hi
        rw [if_pos rfl, if_pos rfl, if_pos q2, Array.getElem?_eq_getElem hqe]
        simpa using e2
      · rw [if_neg hi, if_neg hi]
        simpa using e3
    have hval : (es[q.1]'hqe).val = v := by
      have e1 : (es.toList.map (·.val))[q.1]? = (Dv.map (·.2))[q.1]? := by rw [h3]
      have e2 := lk_get k Dv
      rw [hix, hv] at e2
      rw [List.getElem?_map, List.getElem?_map, ← e2, Array.getElem?_toList, Array.getElem?_eq_getElem hqe] at e1
      simpa using e1
    obtain ⟨g1, g2⟩ := h.set_ (T := T) (lab2 := lab2) (es := es.modify q.1 fun e => { e with key := kf k }) (cl := cl) hT h0 (D' := upM Dv k v) (by rw [q4]; exact hm _ _ h2 rfl) (by rw [q4]; exact hm _ _ h3 hval) (hB.modify _ _ fun _ => rfl)
    rw [hv]
    refine ⟨_, _, hr, g1, g2, _, _, { (es[q.1]'hqe) with key := kf k }, hget _, ?_, rfl⟩
    rw [hix, Array.getElem?_modify, if_pos rfl, Array.getElem?_eq_getElem hqe]; rfl
theorem or_mborrow {xl : List α} (hk : KeyOk P kt kf) (ht : P.underlying t = some (.map kt vt)) (hz : ∀ w, (zeroValue vt).run P w = .ok (.slice none 0 0) w) (hx : a.eval x = .map (some g)) (hu : a.eval u = kf k) (h1 : MpO own lab w g kf (fun v : Value => v) Dv) (h2 : Dv.map (·.1) = D.map (·.1)) (h3 : Els own labE L w e2 R (Dv.map (·.2)) (D.map (·.2)) ys none) (he : (lkM D k).getD [] = xl) (hT : lab ∈ T) (h0 : lab ≠ 0) :
    OpR P ⟨some d, .mapEntry t x u, ty, pos, after, guard⟩ a w (Post T own a w (Fct.ment lab2 d g kf Dv k ys xl) (some d)) := by
  subst he
  obtain ⟨w', b, hr0, hev, hM, hS⟩ := run_mapEntry (P := P) (lab2 := lab2) hk ht (hz w) h1 k hT h0
  unfold OpR Oper.wp
  have hr : (execOp a.eval ⟨some d, .mapEntry t x u, ty, pos, after, guard⟩).run P w = .ok (.value (.tuple #[(lkM Dv k).getD (.slice none 0 0), .int .i64 (b : Int)])) w' := by
    simp only [execOp, hx, hu]
    simp [Sem.run_bind, hr0]
  rw [hr]
  refine ⟨_, rfl, _, hev, fun a' ha => ?_⟩
  have hy := h3.2.1
  rw [List.length_map] at hy
  rcases mpn_read h2 h3 k with ⟨y, q1, q2, q3, q4, q5⟩ | ⟨q1, q2, q3⟩
  · exact ⟨(y, b), (ha.1 d rfl).trans (by rw [q4]), hM, hS, .inl (by rw [h2]; exact q2)⟩
  · exact ⟨((none, 0), b), by rw [ha.1 d rfl, q3, q2]; rfl, hM, hS, .inr ⟨by rw [h2, hy, q1], rfl⟩⟩
theorem els_entry (h2 : Dv.map (·.1) = D.map (·.1)) (h3 : Els own labE L w e2 R (Dv.map (·.2)) (D.map (·.2)) ys none) {y : AC} (hc : ys[ixM k (Dv.map (·.1))]? = some y ∨ (ys.length = ixM k (Dv.map (·.1)) ∧ y = (none, 0))) :
    ∃ ys', Els own labE L w e2 R ((upM Dv k ((lkM Dv k).getD nilS)).map (·.2)) ((upM D k ((lkM D k).getD [])).map (·.2)) ys' none ∧ ys'[ixM k (D.map (·.1))]? = some y := by
  have hle : Dv.length = D.length := by have := congrArg List.length h2; simpa using this
  have hy := h3.2.1
  rw [List.length_map] at hy
  rw [h2] at hc
  rcases mpn_read h2 h3 k with ⟨y', q1, q2, q3, q4, q5⟩ | ⟨q1, q2, q3⟩
  · have e : (upM D k ((lkM D k).getD [])).map (·.2) = D.map (·.2) := by
      refine List.ext_getElem? fun j => ?_
      rw [up_get2]
      split
      · rename_i hj; subst hj; exact q3.symm
      · rfl
    have e' : (upM Dv k ((lkM Dv k).getD nilS)).map (·.2) = Dv.map (·.2) := by
      refine List.ext_getElem? fun j => ?_
      rw [up_get2, h2]
      split
      · rename_i hj; subst hj
        rw [lk_get k Dv, h2, List.getElem?_map]
        rw [List.getElem?_eq_getElem (by omega)]; rfl
      · rfl
    rw [e, e']
    rcases hc with hc | ⟨hc, _⟩
    · exact ⟨ys, h3, hc⟩
    · omega
  · have hyn : y = (none, 0) := by
      rcases hc with hc | ⟨_, hc⟩
      · rw [List.getElem?_eq_none (by omega)] at hc; cases hc
      · exact hc
    subst hyn
    have e : (upM D k ((lkM D k).getD [])).map (·.2) = D.map (·.2) ++ [[]] := by
      rw [q2]
      refine List.ext_getElem? fun j => ?_
      rw [up_get2, q1, List.getElem?_append, List.length_map]
      split
      · rename_i hj; subst hj; rw [if_neg (by omega)]; simp
      · split
        · rfl
        · rw [List.getElem?_eq_none (by simp; omega), List.getElem?_eq_none (by simp; omega)]
    have e' : (upM Dv k ((lkM Dv k).getD nilS)).map (·.2) = Dv.map (·.2) ++ [nilS] := by
      rw [q3]
      refine List.ext_getElem? fun j => ?_
      rw [up_get2, h2, q1, List.getElem?_append, List.length_map, hle]
      split
      · rename_i hj; subst hj; rw [if_neg (by omega)]; simp
      · split
        · rfl
        · rw [List.getElem?_eq_none (by simp; omega), List.getElem?_eq_none (by simp; omega)]
    refine ⟨ys ++ [(none, 0)], ?_, by rw [q1, List.getElem?_append_right (by omega), hy]; simp⟩
    rw [e, e']
    refine ⟨by simp [hle], by simp [hy], fun j x' y' hx' hy' => ?_, fun i j y1 y2 hij h1' h2' hc1 hc2 => ?_⟩
    · rw [List.getElem?_append] at hx' hy' ⊢
      rw [List.length_map] at hx' ⊢
      rw [hy] at hy'
      split at hx'
      · rename_i hj
        rw [if_pos hj] at hy'
        rw [hle, if_pos hj]
        exact h3.2.2.1 j x' y' hx' hy'
      · rename_i hj
        rw [if_neg hj] at hy'
        rw [hle, if_neg hj]
        have h0 : j - D.length = 0 := by
          rcases Nat.eq_zero_or_pos (j - D.length) with h | h
          · exact h
          · rw [List.getElem?_eq_none (by simp; omega)] at hx'; cases hx'
        rw [h0] at hx' hy' ⊢
        simp at hx' hy'
        subst hx' hy'
        exact ⟨fun _ => rfl, RwO.nil_⟩
    · rw [List.getElem?_append] at h1' h2'
      rw [hy] at h1' h2'
      have key : ∀ (i : Nat) (q : AC), ([(none, 0)] : List AC)[i]? = some q → q.2 ≠ 0 → False := fun i q hq hc => by
        cases i with
        | zero => simp at hq; subst hq; exact hc rfl
        | succ i => simp at hq
      split at h1'
      · split at h2'
        · exact h3.2.2.2 i j y1 y2 hij h1' h2' hc1 hc2
        · exact (key _ _ h2' hc2).elim
      · exact (key _ _ h1' hc1).elim
theorem or_mgrow {xl m r : List α} (hT : TApp P t e2 R.s bytes) (hx : a.eval x = .slice y.1.1 xl.length y.1.2) (h : Ment own lab w g kf Dv k ys y) (h2 : Dv.map (·.1) = D.map (·.1)) (h3 : Els own labE L w e2 R (Dv.map (·.2)) (D.map (·.2)) ys none) (hxl : (lkM D k).getD [] = xl) (hu : a.eval u = .slice A2 m.length c2) (hr : RdO own L2 w R A2 c2 m) (hl : app xl m = some r) (hb8 : 0 < bytes) (hb : bytes ≤ 140000)
    (hE0 : labE ≠ 0) (hTl : labE ∈ T) (hTL3 : hits T L3 = false) (hTL2 : hits T L2 = false) (hL : ∀ z ∈ L, z ∈ L3) (hL2 : R.Flat ∨ ∀ z ∈ L2, z ∈ L3) :
    OpR P ⟨some d, .call ⟨.builtin .append, #[x, u], #[t, t]⟩, ty, pos, after, guard⟩ a w (Post T own a w (Fct.mhole lab2 L3 d e2 R D Dv k r) (some d)) := by
  obtain ⟨hlen, rfl⟩ := app_some hl
  subst hxl
  obtain ⟨ys', h4, h5⟩ := els_entry h2 h3 h.2.2
  obtain ⟨A', c', w', hrun, hev, hn, hE, hz⟩ := els_grow (P := P) (ty := ty) (lab2 := lab2) (L3 := L3) hT h4 h5 (xl := (lkM D k).getD []) (by rw [up_get2, if_pos rfl]) hr (by
    have : (((lkM D k).getD []).length + m.length) * bytes ≤ capB * 140000 := Nat.mul_le_mul hlen hb
    simp only [capB] at this; omega) hb8 hE0 hTl hTL3 hTL2 hL hL2
  unfold OpR Oper.wp
  have hr' : (execOp a.eval ⟨some d, .call ⟨.builtin .append, #[x, u], #[t, t]⟩, ty, pos, after, guard⟩).run P w = .ok (.value (.slice A' ((lkM D k).getD [] ++ m).length c')) w' := by
    simp only [execOp, resolve, invoke, builtin, List.map_toArray, List.map_cons, List.map_nil, hx, hu]
    simp only [Sem.run_bind, Sem.run_pure, Result.andThen_ok, hrun]
  rw [hr']
  have e : ((upM D k ((lkM D k).getD [])).map (·.2)).set (ixM k (D.map (·.1))) ((lkM D k).getD [] ++ m) = (upM D k ((lkM D k).getD [] ++ m)).map (·.2) := by
    refine List.ext_getElem? fun j => ?_
    rw [List.getElem?_set, up_get2 k _ D j, up_get2 k _ D j]
    split
    · rename_i hj; subst hj; first | rw [if_pos hn, if_pos rfl] | rw [if_pos rfl]
    · rename_i hj; rw [if_neg (Ne.symm hj), if_neg (Ne.symm hj)]
  rw [e] at hE
  exact ⟨_, rfl, _, hev, fun a' ha => ⟨((A', c'), _), ha.1 d rfl, hE, hz⟩⟩
theorem or_mput {D' : List (K × List α)} {f : Fct} {dst : Option Tmp} {zs : List AC} (hx : a.eval x = .map (some g)) (hu : a.eval u = .int .i64 (y.2 : Int)) (hv : a.eval v = .slice z.1 r.length z.2) (h2 : Dv.map (·.1) = D.map (·.1)) (h : Ment own lab w g kf Dv k ys y)
    (hh : Hole own labE L w e2 R D Dv k r (z, zs)) (hD : upM D k r = D') (hT : lab ∈ T) (h0 : lab ≠ 0) (hTE : hits T (labE :: L) = false)
    (hf : ∀ (own' : Own) (a' : Act) (w' : World), MpN own' lab2 labE L w' g kf e2 R D' → f.p own' a' w') :
    OpR P ⟨dst, .entryStore t x u v, ty, pos, after, guard⟩ a w (Post T own a w f dst) := by
  subst hD
  obtain ⟨h1, h6, _⟩ := h
  obtain ⟨h4, h5⟩ := hh
  have hK : (upM Dv k ((lkM Dv k).getD nilS)).map (·.1) = (upM D k r).map (·.1) := up_keys k _ r Dv D h2
  rw [h2] at h6
  generalize upM Dv k ((lkM Dv k).getD nilS) = Du at h1 h4 hK
  have h1' := h1
  obtain ⟨_, es, cl, g1, g2, g3, hB⟩ := h1'
  obtain ⟨es', cl', e, q1, q2, q3⟩ := h6
  rw [g1] at q1
  injection q1 with q1
  injection q1 with q1 q1'
  subst q1 q1'
  rw [← q3] at hu
  have hn : ixM k (D.map (·.1)) < es.size := (Array.getElem?_eq_some_iff.1 q2).1
  have hfi : es.findIdx? (fun e' => ((e'.born : Int) == (e.born : Int))) = some (ixM k (D.map (·.1))) := by
    rw [Array.findIdx?_eq_some_iff_getElem]
    refine ⟨hn, ?_, fun j hj => ?_⟩
    · rw [(Array.getElem?_eq_some_iff.1 q2).2]; simp
    · have hjs : j < es.size := by omega
      have hp := List.pairwise_iff_getElem.1 hB.1 j (ixM k (D.map (·.1))) (by simpa using hjs) (by simpa using hn) hj
      simp only [List.getElem_map, Array.getElem_toList] at hp
      rw [(Array.getElem?_eq_some_iff.1 q2).2] at hp
      simp; omega
  have hgo : (getObj g).run P w = .ok (.map es cl) w := by simp [getObj, Sem.run, g1]
  have hs : ∀ o, (setObj g o).run P w = .ok () { w with heap := w.heap.setIfInBounds g o } := fun o => by simp [setObj, Sem.run, g1]
  have hr : (execOp a.eval ⟨dst, .entryStore t x u v, ty, pos, after, guard⟩).run P w = .ok .skip { w with heap := w.heap.setIfInBounds g (.map (es.modify (ixM k (D.map (·.1))) fun e => { e with val := .slice z.1 r.length z.2 }) cl) } := by
    simp only [execOp, hx, hu, hv, Instr.entryStore]
    simp [Sem.run_bind, hgo, asInt, asIntOf, hfi, hs, Result.andThen]
  have hle : Du.length = (upM D k r).length := by have := congrArg List.length hK; simpa using this
  have hes : es.size = Du.length := by have := congrArg List.length g2; simpa using this
  obtain ⟨s1, s2⟩ := h1.set_ (T := T) (lab2 := lab2) (es := es.modify (ixM k (D.map (·.1))) fun e => { e with val := .slice z.1 r.length z.2 }) (cl := cl) hT h0 (D' := Du.set (ixM k (D.map (·.1))) ((Du[ixM k (D.map (·.1))]'(by omega)).1, .slice z.1 r.length z.2)) (by
      refine List.ext_getElem? fun j => ?_
      have e1 := congrArg (fun q => q[j]?) g2
      simp only [List.getElem?_map, Array.getElem?_toList] at e1
      rw [List.getElem?_map, Array.getElem?_toList, Array.getElem?_modify, List.getElem?_map, List.getElem?_set]
      split
      · rename_i hj; subst hj
        rw [if_pos (by omega)]
        rw [List.getElem?_eq_getElem (by omega), Array.getElem?_eq_getElem hn] at e1
        rw [Array.getElem?_eq_getElem hn]
        simpa using e1
      · exact e1) (by
      refine List.ext_getElem? fun j => ?_
      have e1 := congrArg (fun q => q[j]?) g3
      simp only [List.getElem?_map, Array.getElem?_toList] at e1
      rw [List.getElem?_map, Array.getElem?_toList, Array.getElem?_modify, List.getElem?_map, List.getElem?_set]
      split
      · rename_i hj; subst hj
        rw [if_pos (by omega), Array.getElem?_eq_getElem hn]
        rfl
      · exact e1) (hB.modify _ _ fun _ => rfl)
  unfold OpR Oper.wp
  rw [hr]
  refine ⟨_, rfl, _, s1, fun a' _ => hf _ a' _ ⟨zs, _, s2, ?_, ?_⟩⟩
  · rw [← hK]
    refine List.ext_getElem? fun j => ?_
    rw [List.getElem?_map, List.getElem?_set, List.getElem?_map]
    split
    · rename_i hj; subst hj
      rw [if_pos (by omega), List.getElem?_eq_getElem (by omega)]; rfl
    · rfl
  · refine ⟨by simp [hle], h4.2.1, fun j x' y' hx' hy' => ?_, h4.2.2.2⟩
    obtain ⟨k1, k2⟩ := h4.2.2.1 j x' y' hx' hy'
    refine ⟨fun _ => ?_, k2.evo hTE s1⟩
    rw [List.getElem?_map, List.getElem?_set]
    by_cases hj : ixM k (D.map (·.1)) = j
    · subst hj
      rw [h5] at hy'
      rw [up_get2, if_pos rfl] at hx'
      injection hx' with hx'
      injection hy' with hy'
      subst hx' hy'
      rw [if_pos rfl, if_pos (by omega)]; rfl
    · rw [if_neg hj, ← List.getElem?_map]
      exact k1 (fun e => hj (by injection e))
end
section
variable {P : Program} {r : Option Nat} {T : List Nat} {own : Own} {a : Act} {w : World} {d : Nat} {o : Oper} {c : Bool} {β : Type} {mk : β → Value} {q : β → Own → World → Prop}
end
theorem RwO.backM_ {α : Type} {R : Rep α} {La L L' : List Nat} {own own' : Own} {w w' : World} {m' : Nat → Nat} {A : Option Addr} {c lab : Nat} {l : List α} {e : TypeId} (ho : ∀ b, b < w.heap.size → own' b = inL La (own b)) (h : RwO own' lab L w' e R A c l) (h1 : 1 < lab) (h0 : 0 ∉ L) (hL : ∀ x ∈ La, x ∈ L') (hm : ∀ x ∈ L, m' x ∈ L') : RwO (backN own own' w m') (m' lab) L' w' e R A c l := by
  rcases h with h | ⟨g, cur, g1, g2, g3, g4, g5, g6, g7⟩
  · exact .inl h
  · refine .inr ⟨g, cur, g1, ?_, g3, g4, g5, g6, g7.loc fun b hb => ⟨⟨⟨?_, hb.1.2⟩, hb.2⟩, rfl⟩⟩
    · unfold backN
      rw [if_neg, g2]
      intro hlt
      have h8 := ho g hlt
      have := inL_le (La := La) (own := own) g
      have : inL La (own g) ≤ 1 := this
      omega
    · unfold backN
      by_cases hlt : b < w.heap.size
      · rw [if_pos hlt]
        have h8 := ho b hlt
        have h2 : inL La (own b) = 1 := by
          have : inL La (own b) ≠ 0 := fun h3 => h0 (by rw [← h3, ← h8]; exact hb.1.1)
          have := inL_le (La := La) (own := own) b
          have : inL La (own b) ≤ 1 := this
          omega
        exact hL _ (inL_mem h2)
      · rw [if_neg hlt]; exact hm _ hb.1.1
section
variable {P : Program} {K V : Type} [DecidableEq K] {kt vt : TypeId} {T : List Nat} {own : Own} {a : Act} {w : World} {d lab lab2 g : Nat} {x y : Operand} {t t2 ty : TypeId} {pos : String} {after : Array Edge} {guard : Option (Nat × Bool)} {kf : K → Value} {vf : V → Value} {D : List (K × V)}
theorem atM_de (k : K) : ∀ (D : List (K × V)) (i : Nat), (match atM k (D.map fun p => (p.1, vf p.2)) i with
      | some q => i ≤ q.1 ∧ q.1 - i < D.length ∧ deM D k = D.eraseIdx (q.1 - i)
      | none => deM D k = D)
  | [], i => rfl
  | p :: D, i => by
    simp only [List.map_cons, atM, deM]
    by_cases h : k = p.1
    · rw [if_pos h, if_pos h]
      simp
    · rw [if_neg h, if_neg h]
      have ih := atM_de k D (i + 1)
      cases ha : atM k (D.map fun p => (p.1, vf p.2)) (i + 1) with
      | none => rw [ha] at ih; simp only at ih ⊢; rw [ih]
      | some q =>
        rw [ha] at ih
        simp only at ih ⊢
        obtain ⟨h1, h2, h3⟩ := ih
        obtain ⟨m, hm⟩ : ∃ m, q.1 - i = m + 1 := ⟨q.1 - (i + 1), by omega⟩
        have hm' : q.1 - (i + 1) = m := by omega
        rw [hm'] at h2 h3
        rw [hm]
        exact ⟨by omega, by simpa using h2, by rw [h3]; rfl⟩
theorem or_delete {k : K} {D' : List (K × V)} {f : Fct} {dst : Option Tmp} (hk : KeyOk P kt kf) (ht : P.underlying t = some (.map kt vt)) (hx : a.eval x = .map (some g)) (hy : a.eval y = kf k) (h : MpO own lab w g kf vf D) (hD : deM D k = D') (hT : lab ∈ T) (h0 : lab ≠ 0)
    (hf : ∀ (own' : Own) (a' : Act) (w' : World), MpO own' lab2 w' g kf vf D' → f.p own' a' w') :
    OpR P ⟨dst, .call ⟨.builtin .delete, #[x, y], #[t, t2]⟩, ty, pos, after, guard⟩ a w (Post T own a w f dst) := by
  subst hD
  have h' := h
  obtain ⟨_, es, cl, h1, h2, h3, hB⟩ := h'
  have hg : (getObj g).run P w = .ok (.map es cl) w := by simp [getObj, Sem.run, h1]
  have hs : ∀ o, (setObj g o).run P w = .ok () { w with heap := w.heap.setIfInBounds g o } := fun o => by simp [setObj, Sem.run, h1]
  have hfk := findKey_ok hk k w es.toList (D.map fun p => (p.1, vf p.2)) (by rw [h2, List.map_map]; rfl) (by rw [h3, List.map_map]; rfl)
  have hu := atM_de (vf := vf) k D 0
  have hlen : es.size = D.length := by have := congrArg List.length h2; simpa using this
  unfold OpR Oper.wp
  cases ha : atM k (D.map fun p => (p.1, vf p.2)) 0 with
  | none =>
    rw [ha] at hu hfk
    simp only at hu
    have hr : (Builtin.delete_ #[t, t2] ty #[.map (some g), kf k]).run P w = .ok (.tuple #[]) { w with heap := w.heap.setIfInBounds g (.map es cl) } := by
      simp [Builtin.delete_, Sem.run_bind, run_underlying ht, hg, hk.chk, hfk, hs, Result.andThen]
    have hr' : (execOp a.eval ⟨dst, .call ⟨.builtin .delete, #[x, y], #[t, t2]⟩, ty, pos, after, guard⟩).run P w = .ok (.value (.tuple #[])) { w with heap := w.heap.setIfInBounds g (.map es cl) } := by
      simp only [execOp, resolve, invoke, builtin, List.map_toArray, List.map_cons, List.map_nil, hx, hy]
      simp only [Sem.run_bind, Sem.run_pure, Result.andThen_ok, hr]
    rw [hr']
    obtain ⟨g1, g2⟩ := h.set_ (T := T) (lab2 := lab2) (es := es) (cl := cl) hT h0 (D' := deM D k) (by rw [hu]; exact h2) (by rw [hu]; exact h3) hB
    exact ⟨_, rfl, _, g1, fun a' _ => hf _ a' _ g2⟩
  | some q =>
    rw [ha] at hu hfk
    simp only [Nat.sub_zero] at hu
    obtain ⟨_, q2, q3⟩ := hu
    have hqe : q.1 < es.size := by omega
    have hr : (Builtin.delete_ #[t, t2] ty #[.map (some g), kf k]).run P w = .ok (.tuple #[]) { w with heap := w.heap.setIfInBounds g (.map (es.eraseIdxIfInBounds q.1) cl) } := by
      simp [Builtin.delete_, Sem.run_bind, run_underlying ht, hg, hk.chk, hfk, hs, Result.andThen]
    have hr' : (execOp a.eval ⟨dst, .call ⟨.builtin .delete, #[x, y], #[t, t2]⟩, ty, pos, after, guard⟩).run P w = .ok (.value (.tuple #[])) { w with heap := w.heap.setIfInBounds g (.map (es.eraseIdxIfInBounds q.1) cl) } := by
      simp only [execOp, resolve, invoke, builtin, List.map_toArray, List.map_cons, List.map_nil, hx, hy]
      simp only [Sem.run_bind, Sem.run_pure, Result.andThen_ok, hr]
    rw [hr']
    have he : (es.eraseIdxIfInBounds q.1).toList = es.toList.eraseIdx q.1 := by
      unfold Array.eraseIdxIfInBounds
      rw [dif_pos hqe, Array.toList_eraseIdx]
    have hm : ∀ (F : MapEntry → Value) (G : K × V → Value), es.toList.map F = D.map G → (es.toList.eraseIdx q.1).map F = (D.eraseIdx q.1).map G := fun F G e => by
      refine List.ext_getElem? fun j => ?_
      have e' := fun j : Nat => congrArg (fun l => l[j]?) e
      simp only [List.getElem?_map, List.getElem?_eraseIdx] at e' ⊢
      split
      · exact e' j
      · exact e' (j + 1)
    have hb : Born (es.eraseIdxIfInBounds q.1).toList cl := by
      rw [he]
      have hsub : ((es.toList.eraseIdx q.1).map (·.born)).Sublist (es.toList.map (·.born)) := (List.eraseIdx_sublist _ _).map _
      exact ⟨hB.1.sublist hsub, fun b hb => hB.2 b (hsub.subset hb)⟩
    obtain ⟨g1, g2⟩ := h.set_ (T := T) (lab2 := lab2) (es := es.eraseIdxIfInBounds q.1) (cl := cl) hT h0 (D' := deM D k) (by rw [he, q3]; exact hm _ _ h2) (by rw [he, q3]; exact hm _ _ h3) hb
    exact ⟨_, rfl, _, g1, fun a' _ => hf _ a' _ g2⟩
end
section
variable {P : Program} {T : List Nat} {own : Own} {a : Act} {w : World} {d : Nat} {x y : Operand} {t ty e : TypeId} {pos : String} {after : Array Edge} {guard : Option (Nat × Bool)}
def chkA (e : Bool) (d : Nat) (el : TypeId) (s : Nat) (xs : Array Value) : List Nat → Sem Unit
  | [] => pure ()
  | i :: is => do
    let a ← part el xs (i * s)
    Instr.checkKey e d el a
    chkA e d el s xs is
theorem run_checkKey_array (b : Bool) (d : Nat) {n s : Nat} (xs : Array Value) (hu : P.underlying t = some (.array n e)) (hs : TSize P e s) (w : World) :
    (Instr.checkKey b (d + 1) t (.agg xs)).run P w = (chkA b d e s xs (List.range n)).run P w := by
  simp only [Instr.checkKey, Sem.run_bind, run_underlying hu, Result.andThen_ok]
  simp only [Std.Legacy.Range.forIn_eq_forIn_range', Std.Legacy.Range.size, Nat.sub_zero, Nat.add_one_sub_one, Nat.div_one, List.range_eq_range']
  generalize List.range' 0 n = is
  induction is generalizing w with
  | nil => simp [chkA]
  | cons j is ih =>
    simp only [List.forIn_cons, chkA, Sem.run_bind, hs w, Result.andThen_ok]
    generalize (part e xs (j * s)).run P w = r1
    cases r1 with
    | ok a w1 =>
      simp only [Result.andThen_ok]
      generalize (Instr.checkKey b d e a).run P w1 = r2
      cases r2 with
      | ok b w2 => simp only [Result.andThen_ok, Sem.run_pure]; exact ih w2
      | halt x w2 => simp [Result.andThen]
    | halt x w1 => simp [Result.andThen]
def eqA (d : Nat) (el : TypeId) (s : Nat) (xs ys : Array Value) : List Nat → Sem Bool
  | [] => pure true
  | i :: is => do
    let a ← part el xs (i * s)
    let b ← part el ys (i * s)
    let r ← Op.equalIn d el a b
    if r then eqA d el s xs ys is else pure false
theorem run_eqA (d : Nat) {n s : Nat} (xs ys : Array Value) (hu : P.underlying t = some (.array n e)) (hs : TSize P e s) (w : World) :
    (Op.equalIn (d + 1) t (.agg xs) (.agg ys)).run P w = (eqA d e s xs ys (List.range n)).run P w := by
  simp only [Op.equalIn, Sem.run_bind, run_underlying hu, Result.andThen_ok, hs w]
  simp only [Std.Legacy.Range.forIn_eq_forIn_range', Std.Legacy.Range.size, Nat.sub_zero, Nat.add_one_sub_one, Nat.div_one, List.range_eq_range']
  generalize List.range' 0 n = is
  induction is generalizing w with
  | nil => simp [eqA]
  | cons j is ih =>
    simp only [List.forIn_cons, eqA, Sem.run_bind]
    generalize (part e xs (j * s)).run P w = r1
    cases r1 with
    | ok a w1 =>
      simp only [Result.andThen_ok]
      generalize (part e ys (j * s)).run P w1 = r2
      cases r2 with
      | ok b w2 =>
        simp only [Result.andThen_ok]
        generalize (Op.equalIn d e a b).run P w2 = r3
        cases r3 with
        | ok r w3 =>
          cases r
          · simp only [Result.andThen_ok, Bool.not_false, if_true, Sem.run_pure]; rfl
          · simp only [Result.andThen_ok, Bool.not_true, Bool.false_eq_true, if_false, Sem.run_pure, if_true]
            exact ih w3
        | halt x w3 => simp [Result.andThen]
      | halt x w2 => simp [Result.andThen]
    | halt x w1 => simp [Result.andThen]
def eqF (d : Nat) (xs ys : Array Value) : List Field → Sem Bool
  | [] => pure true
  | f :: fs =>
    if f.name ≠ "_" then do
      let a ← part f.type xs f.offset
      let b ← part f.type ys f.offset
      let r ← Op.equalIn d f.type a b
      if r then eqF d xs ys fs else pure false
    else eqF d xs ys fs
theorem run_eqF (d : Nat) (xs ys : Array Value) (ht : P.underlying t = some (.struct (P.fieldsOf t))) (hst : P.stoodInHeld t = false) (w : World) :
    (Op.equalIn (d + 1) t (.agg xs) (.agg ys)).run P w = (eqF d xs ys (P.fieldsOf t).toList).run P w := by
  have hp : (program).run P w = .ok P w := rfl
  simp only [Op.equalIn, Sem.run_bind, run_underlying ht, Result.andThen_ok, hp, hst, Bool.false_eq_true, if_false]
  rw [← Array.forIn_toList]
  generalize (P.fieldsOf t).toList = fs
  clear ht hst hp
  induction fs generalizing w with
  | nil => simp [eqF]
  | cons f fs ih =>
    simp only [List.forIn_cons, eqF, Sem.run_bind, Sem.run_ite]
    split
    · generalize (part f.type xs f.offset).run P w = r1
      cases r1 with
      | ok a w1 =>
        simp only [Result.andThen_ok]
        generalize (part f.type ys f.offset).run P w1 = r2
        cases r2 with
        | ok b w2 =>
          simp only [Result.andThen_ok]
          generalize (Op.equalIn d f.type a b).run P w2 = r3
          cases r3 with
          | ok r w3 =>
            cases r
            · simp only [Result.andThen_ok, Bool.not_false, if_true, Sem.run_pure]; rfl
            · simp only [Result.andThen_ok, Bool.not_true, Bool.false_eq_true, if_false, Sem.run_pure, if_true]
              exact ih w3
          | halt x w3 => simp [Result.andThen]
        | halt x w2 => simp [Result.andThen]
      | halt x w1 => simp [Result.andThen]
    · simp only [Sem.run_pure, Result.andThen_ok]
      exact ih w
theorem bin_eql {b : Bool} {xs ys : Array Value} (h : (Op.equalIn 10000 t (.agg xs) (.agg ys)).run P w = .ok b w) : (binOp .eql t (.agg xs) (.agg ys)).run P w = .ok (.bool b) w := by
  rw [run_eql_struct, h]; rfl
end
end Go.Proofs.Ytoccfdohlefifaa
