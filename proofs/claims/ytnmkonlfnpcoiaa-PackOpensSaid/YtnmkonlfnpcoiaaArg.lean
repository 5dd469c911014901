import Derived.Test.YtnmkonlfnpcoiaaRop
import Derived.Test.YtnmkonlfnpcoiaaRows
import Derived.ProofKit
import Derived.OpenShut
import Derived.Lib.SmallJoins
namespace Go.Proofs.Ytnmkonlfnpcoiaa
open Go.ChangeShapes Go.WideShapes Go.ChangeAt Go.RowKit Go.Joins Go.Deep
theorem own : ownKnob Try.prog.godebug = none := by kernel_rfl
theorem laidOut : laidOutB Try.prog = true := by kernel_rfl
theorem Evo.below0 {own' : Own} {w w' : World} (h : Evo [] (fun _ => 0) own' w w') : Below w.heap.size w w' := ⟨h.os, h.tape, h.output, h.size, fun b hb => (h.keep b hb (fun _ => rfl)).2⟩
section
variable {H : Type} {enc : TypeId × Value → H} {P : Program}
theorem trodAll_stays (hl : laidOutB P = true) {W W' : World} (hb : Below W.heap.size W W') {sp : Nat → Bool} :
    ∀ {ts : List TypeId} {vs : List Value} {ds : List (DataW H)} {ps : List MemPlace}, (ts.all fun t => P.readableRec t && decide (t < P.types.size)) = true →
      DataW.TrodAll enc P W 0 (fun _ => true) true ts vs ds ps → (∀ x ∈ ps, x.block < W.heap.size) → (∀ x ∈ ps, sp x.block = true) → DataW.TrodAll enc P W' 0 sp true ts vs ds ps
  | [], [], [], _, _, h, _, _ => h
  | [], _ :: _, _, _, _, h, _, _ => h.elim
  | [], [], _ :: _, _, _, h, _, _ => h.elim
  | _ :: _, [], _, _, _, h, _, _ => h.elim
  | _ :: _, _ :: _, [], _, _, h, _, _ => h.elim
  | t :: ts, v :: vs, d :: ds, ps, hr, h, hlt, hs => by
    obtain ⟨p, q, hp, hq, rfl⟩ := h
    simp only [List.all_cons, Bool.and_eq_true, decide_eq_true_eq] at hr
    exact ⟨p, q, WideElems.Trod_stays hl hr.1.1 hr.1.2 hp (fun x hx => hb.same (hlt x (by simp [hx]))) (fun x hx => hs x (by simp [hx])),
      trodAll_stays hl hb hr.2 hq (fun x hx => hlt x (by simp [hx])) (fun x hx => hs x (by simp [hx])), rfl⟩
theorem post_of_below {f : Func} {s : ChangeSpec} {apart fresh handsOn again : Bool} {W W' : World} {args : Array Value} {v : Value} {ds gs : List (DataW H)} {before pa pv : List MemPlace}
    (hW : DataW.Whole enc P f.params.toList s.vars apart W args.toList ds gs before)
    (hres : ∀ (b : Nat) (sp : Nat → Bool) (hd : Bool), DataW.TrodAll enc P W' b sp hd f.resultTypes.toList (v.resultList f.resultTypes.size) (s.fn H (ds ++ gs)).results [])
    (hargs : ∀ sp : Nat → Bool, (∀ p ∈ before, sp p.block = true) → DataW.TrodAll enc P W' 0 sp true f.params.toList args.toList (s.fn H (ds ++ gs)).args pa)
    (hvars : ∀ sp : Nat → Bool, (∀ p ∈ before, sp p.block = true) → DataW.TrodVars enc P W' sp s.vars (s.fn H (ds ++ gs)).vars pv)
    (hps : before = pa ++ pv) (hb : Below W.heap.size W W')
    (hok : ∀ (j : Nat) (t : TypeId) (r : Value), f.resultTypes[j]? = some t → (v.resultList f.resultTypes.size)[j]? = some r → Value.okWide P W' .any 0 t r) :
    s.post enc P f apart fresh handsOn again W args v W' := by
  have hlt : ∀ p ∈ before, p.block < W.heap.size := fun p hp => hW.lt p hp
  have hold : ∀ p ∈ before, (fun b => decide (b < W.heap.size)) p.block = true := fun p hp => by simpa using hlt p hp
  refine ⟨ds, gs, before, [], pa, pv, hW, hres _ _ _, hargs _ hold, hvars _ hold, World.keptBut_mono (fun p hp => ⟨hp, ?_⟩) (hb.frame (· ∈ before)), fun _ => ?_⟩
  · rw [hps, List.mem_append] at hp
    exact Or.inr hp
  · obtain ⟨_, _, _, _, _, hz, hn⟩ := hW
    refine ⟨hok, _, _, ([] ++ pa) ++ pv, ⟨[] ++ pa, pv, trodAll_append (hargs _ (fun _ _ => rfl)) (hres _ _ _), hvars _ (fun _ _ => rfl), rfl, ?_, ?_⟩, ?_⟩
    · intro b off hp
      have hin : MemPlace.cell b off ∈ before := by rw [hps]; simpa using hp
      rw [hb.frozen (hlt _ hin)]
      exact hz b off hin
    · intro ha
      have := hn ha
      rw [hps] at this
      simpa using this
    · intro p hp _
      rw [hps]
      simpa using hp
theorem cell_in {w : World} {base n : Nat} {a : Addr} {cs : List Value} {j : Nat} {u : Value} (h : w.cells? base a n = some cs) (hu : cs[j]? = some u) : w.cell? (a.add j) = some u := by
  unfold World.cells? at h
  split at h
  · have hl := mapM_some_length h
    have hj : j < n := by
      have := (List.getElem?_eq_some_iff.1 hu).1
      simp at hl
      omega
    have := mapM_some_get h j j (by simp [hj])
    rw [this, hu]
  · cases h
variable {α β : Type}
def OpensF (P : Program) (t : TypeId) (E : En α) (K : α → Prop) : Prop :=
  ∀ {H : Type} {enc : TypeId × Value → H} {w : World} {held : Bool} {fuel : Nat} {cs : List Value} {x : DataW H × List MemPlace}, DataW.trod enc P w 0 (fun _ => true) held fuel t cs = some x → ∃ y, cs = E.f y ∧ K y
def OpensR (P : Program) (t : TypeId) (R : Rep α) (K : α → Prop) : Prop :=
  ∀ {H : Type} {enc : TypeId × Value → H} {w : World} {held : Bool} {fuel : Nat} {cs : List Value} {x : DataW H × List MemPlace}, DataW.trod enc P w 0 (fun _ => true) held fuel t cs = some x → ∃ y, R.ok w (fun b => b < w.heap.size) cs y ∧ K y
theorem OpensF.i64 {t : TypeId} (hu : P.underlying t = some (.int .i64)) : OpensF P t (En.int .i64) I64 := by
  intro H enc w held fuel cs x h
  obtain ⟨n, rfl, _, hw⟩ := DataW.trod_int hu h
  exact ⟨n, rfl, bounds_i64 hw⟩
theorem OpensF.u64 {t : TypeId} (hu : P.underlying t = some (.int .u64)) : OpensF P t (En.int .u64) U64 := by
  intro H enc w held fuel cs x h
  obtain ⟨n, rfl, _, hw⟩ := DataW.trod_int hu h
  exact ⟨n, rfl, bounds_u64 hw⟩
theorem OpensF.u8 {t : TypeId} (hu : P.underlying t = some (.int .u8)) : OpensF P t (En.int .u8) U8 := by
  intro H enc w held fuel cs x h
  obtain ⟨n, rfl, _, hw⟩ := DataW.trod_int hu h
  exact ⟨n, rfl, bounds_u8 hw⟩
theorem OpensF.bool {t : TypeId} (hu : P.underlying t = some .bool) : OpensF P t En.bool (fun _ => True) := by
  intro H enc w held fuel cs x h
  obtain ⟨n, rfl, _⟩ := DataW.trod_bool hu h
  exact ⟨n, rfl, trivial⟩
def FieldsF (P : Program) (fs : List Field) (o : Nat) (E : En α) (K : α → Prop) : Prop :=
  ∀ {H : Type} {enc : TypeId × Value → H} {w : World} {held : Bool} {fuel : Nat} {cs : List Value}, (∀ f ∈ fs, (DataW.trod enc P w 0 (fun _ => true) held fuel f.type ((cs.drop f.offset).take (P.cellsOf f.type))).isSome = true) → cs.length = o + E.s → ∃ y, cs.drop o = E.f y ∧ K y
theorem FieldsF.one {f : Field} {o : Nat} {E : En α} {K : α → Prop} (h : OpensF P f.type E K) (ho : f.offset = o) (hc : P.cellsOf f.type = E.s) : FieldsF P [f] o E K := by
  intro H enc w held fuel cs hf hl
  have h1 := hf f (by simp)
  obtain ⟨x, hx⟩ := Option.isSome_iff_exists.1 h1
  rw [ho, hc, List.take_of_length_le (by rw [List.length_drop]; omega)] at hx
  exact h hx
theorem FieldsF.cons {f : Field} {fs : List Field} {o : Nat} {E : En α} {F : En β} {K : α → Prop} {K' : β → Prop} (h : OpensF P f.type E K) (ho : f.offset = o) (hc : P.cellsOf f.type = E.s) (hr : FieldsF P fs (o + E.s) F K') : FieldsF P (f :: fs) o (E.pr F) (fun x => K x.1 ∧ K' x.2) := by
  intro H enc w held fuel cs hf hl
  have h1 := hf f (by simp)
  obtain ⟨x, hx⟩ := Option.isSome_iff_exists.1 h1
  rw [ho, hc] at hx
  obtain ⟨y, hy, ky⟩ := h hx
  have hl' : cs.length = o + (E.s + F.s) := hl
  obtain ⟨z, hz, kz⟩ := hr (fun g hg => hf g (by simp [hg])) (by omega)
  refine ⟨(y, z), ?_, ky, kz⟩
  show cs.drop o = E.f y ++ F.f z
  rw [← hy, ← hz, ← List.drop_drop, List.take_append_drop]
theorem OpensF.struct {t : TypeId} {fs : Array Field} {E : En α} {K : α → Prop} (hu : P.underlying t = some (.struct fs)) (hc : P.cellsOf t = E.s) (h : FieldsF P fs.toList 0 E K) : OpensF P t E K := by
  intro H enc w held fuel cs x hx
  obtain ⟨xs, n, _, _, hl, hxs, hf⟩ := DataW.trod_struct hu hx
  obtain ⟨y, hy, ky⟩ := h (cs := cs) (fuel := n) (w := w) (enc := enc) (held := held) (fun f hfm => by
    obtain ⟨i, hi, he⟩ := List.getElem_of_mem hfm
    have hi' : i < fs.size := by simpa using hi
    have h2 : fs[i]? = some f := by rw [Array.getElem?_eq_getElem hi', ← he]; simp
    rw [hf i f h2, List.getElem?_eq_getElem (by omega)]
    rfl) (by rw [hl, hc, Nat.zero_add])
  exact ⟨y, by simpa using hy, ky⟩
def FieldsR (P : Program) (fs : List Field) (o : Nat) (R : Rep α) (K : α → Prop) : Prop :=
  ∀ {H : Type} {enc : TypeId × Value → H} {w : World} {held : Bool} {fuel : Nat} {cs : List Value}, (∀ f ∈ fs, (DataW.trod enc P w 0 (fun _ => true) held fuel f.type ((cs.drop f.offset).take (P.cellsOf f.type))).isSome = true) → cs.length = o + R.s → ∃ y, R.ok w (fun b => b < w.heap.size) (cs.drop o) y ∧ K y
theorem FieldsR.one {f : Field} {o : Nat} {R : Rep α} {K : α → Prop} (h : OpensR P f.type R K) (ho : f.offset = o) (hc : P.cellsOf f.type = R.s) : FieldsR P [f] o R K := by
  intro H enc w held fuel cs hf hl
  have h1 := hf f (by simp)
  obtain ⟨x, hx⟩ := Option.isSome_iff_exists.1 h1
  rw [ho, hc, List.take_of_length_le (by rw [List.length_drop]; omega)] at hx
  exact h hx
theorem FieldsR.cons {f : Field} {fs : List Field} {o : Nat} {R : Rep α} {F : Rep β} {K : α → Prop} {K' : β → Prop} (h : OpensR P f.type R K) (ho : f.offset = o) (hc : P.cellsOf f.type = R.s) (hr : FieldsR P fs (o + R.s) F K') : FieldsR P (f :: fs) o (R.pr F) (fun x => K x.1 ∧ K' x.2) := by
  intro H enc w held fuel cs hf hl
  have h1 := hf f (by simp)
  obtain ⟨x, hx⟩ := Option.isSome_iff_exists.1 h1
  rw [ho, hc] at hx
  obtain ⟨y, hy, ky⟩ := h hx
  have hl' : cs.length = o + (R.s + F.s) := hl
  obtain ⟨z, hz, kz⟩ := hr (fun g hg => hf g (by simp [hg])) (by omega)
  refine ⟨(y, z), ⟨hy, ?_⟩, ky, kz⟩
  rw [List.drop_drop]; exact hz
theorem OpensR.struct {t : TypeId} {fs : Array Field} {R : Rep α} {K : α → Prop} (hu : P.underlying t = some (.struct fs)) (hc : P.cellsOf t = R.s) (h : FieldsR P fs.toList 0 R K) : OpensR P t R K := by
  intro H enc w held fuel cs x hx
  obtain ⟨xs, n, _, _, hl, hxs, hf⟩ := DataW.trod_struct hu hx
  obtain ⟨y, hy, ky⟩ := h (cs := cs) (fuel := n) (w := w) (enc := enc) (held := held) (fun f hfm => by
    obtain ⟨i, hi, he⟩ := List.getElem_of_mem hfm
    have hi' : i < fs.size := by simpa using hi
    have h2 : fs[i]? = some f := by rw [Array.getElem?_eq_getElem hi', ← he]; simp
    rw [hf i f h2, List.getElem?_eq_getElem (by omega)]
    rfl) (by rw [hl, hc, Nat.zero_add])
  exact ⟨y, by simpa using hy, ky⟩
theorem OpensR.fl {t : TypeId} {E : En α} {K : α → Prop} (h : OpensF P t E K) : OpensR P t (Rep.fl E) K := fun hx => h hx
theorem OpensR.sl {t e : TypeId} {R : Rep α} {K : α → Prop} (hu : P.underlying t = some (.slice e)) (hc : P.cellsOf e = R.s) (h : OpensR P e R K) : OpensR P t (Rep.sl R) (fun l => ∀ x ∈ l, K x) := by
  intro H enc w held fuel cs x hx
  rcases DataW.trod_slice hu hx with ⟨rfl, _⟩ | ⟨a, len, cap, elems, rest, n, _, rfl, _, _, hlc, hcm, hel, hat, _, _⟩
  · exact ⟨[], ⟨none, 0, rfl, Nat.le_refl _, [], rfl, fun h => by simp at h⟩, by simp⟩
  · rw [hc] at hat
    have hi : ∀ i, i < len → ∃ c y, w.cells? 0 (a.add (i * R.s)) R.s = some c ∧ R.ok w (fun b => b < w.heap.size) c y ∧ K y := by
      intro i hi
      have h1 := hat i hi
      rw [List.getElem?_eq_getElem (by omega)] at h1
      cases hcs : w.cells? 0 (a.add (i * R.s)) R.s with
      | none => rw [hcs] at h1; cases h1
      | some c =>
        rw [hcs] at h1
        obtain ⟨y, hy, ky⟩ := h h1
        exact ⟨c, y, rfl, hy, ky⟩
    have key : ∀ m, m ≤ len → ∃ (cs : List Value) (l : List α), l.length = m ∧ RepL R w (fun b => b < w.heap.size) cs l ∧ (∀ y ∈ l, K y) ∧ ∀ j u, cs[j]? = some u → w.cell? (a.add j) = some u := by
      intro m
      induction m with
      | zero => exact fun _ => ⟨[], [], rfl, rfl, by simp, fun j u hu => by simp at hu⟩
      | succ m ih =>
        intro hm
        obtain ⟨cs, l, hl, hr, hk, hcell⟩ := ih (by omega)
        obtain ⟨c, y, hc1, hy, ky⟩ := hi m (by omega)
        refine ⟨cs ++ c, l ++ [y], by simp [hl], hr.append (RepL.one_ hy), ?_, ?_⟩
        · intro z hz
          rw [List.mem_append] at hz
          rcases hz with hz | hz
          · exact hk z hz
          · simp at hz; rw [hz]; exact ky
        · intro j u hu
          have hcl := hr.len
          rw [List.getElem?_append] at hu
          split at hu
          · exact hcell j u hu
          · rename_i hge
            have h2 := cell_in hc1 hu
            rw [hcl, hl, add_add] at h2
            rw [hcl, hl] at hge
            rwa [show m * R.s + (j - m * R.s) = j from by omega] at h2
    obtain ⟨cs, l, hl, hr, hk, hcell⟩ := key len (Nat.le_refl _)
    refine ⟨l, ⟨some a, cap, by rw [hl], by omega, cs, hr, fun hn => ?_⟩, hk⟩
    have hcl := hr.len
    have h0 : 0 < cs.length := by rw [hcl]; exact Nat.mul_pos hn R.pos
    have h1 := hcell 0 cs[0] (List.getElem?_eq_getElem h0)
    have e0 : a.add 0 = a := by simp [Addr.add]
    rw [e0] at h1
    obtain ⟨b, off, spot⟩ := a
    have hspot : spot = none := by simpa using World.cell?_spot h1
    subst hspot
    refine ⟨b, off, rfl, World.block_lt_of_cell? w _ h1, fun j u hu => ?_⟩
    have h2 := hcell j u hu
    have e1 : (⟨b, off, none⟩ : Addr).add j = ⟨b, off + j, none⟩ := by unfold Addr.add; split <;> simp_all
    rwa [e1] at h2
variable {w : World} {held : Bool} {r : Reach} {b0 : Nat} {t : TypeId} {v : Value} {d : DataW H} {p : List MemPlace}
theorem arg_agg {fs : Array Field} {E : En α} {K : α → Prop} (hu : P.underlying t = some (.struct fs)) (hE : OpensF P t E K) (hv : Value.okWide P w r b0 t v) (h : DataW.Trod enc P w 0 (fun _ => true) held t v d p) : ∃ y, v = .agg (E.f y).toArray ∧ K y := by
  obtain ⟨fuel, hf⟩ := h
  obtain ⟨y, hy, ky⟩ := hE hf
  simp only [Value.okWide, hu] at hv
  obtain ⟨cs, rfl, _⟩ := hv
  refine ⟨y, ?_, ky⟩
  have hy : cs.toList = E.f y := hy
  rw [← hy]
theorem arg_slice {e : TypeId} {R : Rep α} {K : List α → Prop} (hu : P.underlying t = some (.slice e)) (hE : OpensR P t (Rep.sl R) K) (hv : Value.okWide P w r b0 t v) (h : DataW.Trod enc P w 0 (fun _ => true) held t v d p) :
    ∃ A c l, v = .slice A l.length c ∧ RdO (fun _ => 0) [0] w R A c l ∧ K l := by
  obtain ⟨fuel, hf⟩ := h
  obtain ⟨l, ⟨A, c, h1, h2, h3⟩, kl⟩ := hE hf
  obtain ⟨A', len, cap, rfl⟩ := okWide_slice hu hv
  have h1 : [Value.slice A' len cap] = [Value.slice A l.length c] := h1
  injection h1 with h1 _
  injection h1 with e1 e2 e3
  subst e1 e2 e3
  exact ⟨A', cap, l, rfl, ⟨h2, h3.loc fun b hb => ⟨⟨by simp, hb⟩, rfl⟩⟩, kl⟩
end
end Go.Proofs.Ytnmkonlfnpcoiaa
