import Derived.Test.YthkmkmkcnljmaaaRow
namespace Go.Proofs.Ythkmkmkcnljmaaa
open Go.RowKit
section
variable {P : Program} {α : Type} {R : Rep α} {T : List Nat} {own : Own} {a : Act} {w : World} {d lab lab2 : Nat} {L L2 L3 : List Nat} {x y z : Operand} {t ty e : TypeId} {pos : String} {after : Array Edge} {guard : Option (Nat × Bool)} {A A2 : Option Addr} {c c2 : Nat} {l l' m : List α} {size bytes : Nat}
theorem or_index {i : Int} {kd : IntKind} {v : α} (hT : TSlice P t R.s) (hx : a.eval x = .slice A l.length c) (hy : a.eval y = .int kd i) (hA : A = some (adr A)) (hi : ix l i = some v) :
    OpR P ⟨some d, .indexAddr t x y, ty, pos, after, guard⟩ a w (Post T own a w (Fct.val d (.pointer (some ((adr A).add (i.toNat * R.s))))) (some d)) :=
  or_val (o := ⟨some d, .indexAddr t x y, ty, pos, after, guard⟩) rfl (by
    obtain ⟨e, he, hs⟩ := hT
    obtain ⟨h0, hlt, _⟩ := ix_some hi
    obtain ⟨j, rfl⟩ : ∃ j : Nat, i = j := ⟨i.toNat, by omega⟩
    have hlt : j < l.length := by simpa using hlt
    simp only [execOp, hx, hy]
    rw [hA]
    simp [Sem.run_bind, Instr.indexAt, asIntOf, run_underlying he, hs w, hlt, adr])
theorem or_len {n : Nat} {r : Int} (hT : P.underlying t = some (.slice e)) (hx : a.eval x = .slice A n c) (hr : (n : Int) = r) :
    OpR P ⟨some d, .call ⟨.builtin .len, #[x], #[t]⟩, ty, pos, after, guard⟩ a w (Post T own a w (Fct.val d (.int .i64 r)) (some d)) :=
  or_val (o := ⟨some d, .call ⟨.builtin .len, #[x], #[t]⟩, ty, pos, after, guard⟩) rfl (by
    subst hr
    have : (Builtin.len_ #[t] ty #[.slice A n c]).run P w = .ok (goInt n) w := by simp [Builtin.len_, run_underlying hT]
    simp only [execOp, resolve, invoke, builtin, List.map_toArray, List.map_cons, List.map_nil, hx]
    simp [Sem.run_bind, this, goInt])
def Bnd (a : Act) (o : Option Operand) (n : Int) (dflt : Int) : Prop := match o with
  | none => n = dflt
  | some o => ∃ k, a.eval o = .int k n
theorem Bnd.none_ {n : Int} : Bnd a none n n := rfl
theorem Bnd.some_ {o : Operand} {n dflt : Int} {k : IntKind} (h : a.eval o = .int k n) : Bnd a (some o) n dflt := ⟨k, h⟩
theorem run_bound {v : Value} {k : IntKind} {i : Int} {y : Nat} {code : BoundsCode} (hv : v = .int k i) (h0 : 0 ≤ i) (h1 : i ≤ y) : (Instr.sliceBound v y code).run P w = .ok i.toNat w := by
  subst hv
  have : 0 ≤ i ∧ i ≤ (y : Int) := ⟨h0, h1⟩
  simp [Instr.sliceBound, asIntOf, Sem.run_bind, this]
theorem run_slice_any {n : Nat} {lo hi mx : Option Operand} {bl bh bm : Int} (hu : P.underlying t = some (.slice e)) (hs : TSize P e size) (hl : Bnd a lo bl 0) (hh : Bnd a hi bh n) (hm : Bnd a mx bm c) (h0 : 0 ≤ bl) (h1 : bl ≤ bh) (h2 : bh ≤ bm) (h3 : bm ≤ c) (hn : n ≤ c) (hmh : mx.isSome = true → hi.isSome = true) :
    (Instr.slice t (.slice A n c) (lo.map a.eval) (hi.map a.eval) (mx.map a.eval)).run P w = .ok (.slice (if bm.toNat = bl.toNat then A else A.map (·.add (bl.toNat * size))) (bh.toNat - bl.toNat) (bm.toNat - bl.toNat)) w := by
  have e3 : ∀ u : Nat, bm.toNat = u → (bm ≤ (u : Int)) := fun u h => by omega
  have key : (Instr.sliceBounds true n c (lo.map a.eval) (hi.map a.eval) (mx.map a.eval)).run P w = .ok (bl.toNat, bh.toNat, bm.toNat) w := by
    unfold Instr.sliceBounds
    cases mx with
    | none =>
      have hbm : bm = c := hm
      subst hbm
      cases hi with
      | none =>
        have hbh : bh = n := hh
        subst hbh
        cases lo with
        | none =>
          have hbl : bl = 0 := hl
          subst hbl
          simp [Sem.run_bind]
        | some lo =>
          obtain ⟨k, hk⟩ := hl
          simp [Sem.run_bind, run_bound (P := P) (w := w) (y := n) hk h0 (by omega)]
      | some hi =>
        obtain ⟨k2, hk2⟩ := hh
        cases lo with
        | none =>
          have hbl : bl = 0 := hl
          subst hbl
          simp [Sem.run_bind, run_bound (P := P) (w := w) (y := c) hk2 (by omega) (by omega)]
        | some lo =>
          obtain ⟨k, hk⟩ := hl
          simp [Sem.run_bind, run_bound (P := P) (w := w) (y := c) hk2 (by omega) (by omega), run_bound (P := P) (w := w) (y := bh.toNat) hk h0 (by omega)]
    | some mx =>
      obtain ⟨k3, hk3⟩ := hm
      cases hi with
      | none => simp at hmh
      | some hi =>
        obtain ⟨k2, hk2⟩ := hh
        cases lo with
        | none =>
          have hbl : bl = 0 := hl
          subst hbl
          simp [Sem.run_bind, run_bound (P := P) (w := w) (y := c) hk3 (by omega) (by omega), run_bound (P := P) (w := w) (y := bm.toNat) hk2 (by omega) (by omega)]
        | some lo =>
          obtain ⟨k, hk⟩ := hl
          simp [Sem.run_bind, run_bound (P := P) (w := w) (y := c) hk3 (by omega) (by omega), run_bound (P := P) (w := w) (y := bm.toNat) hk2 (by omega) (by omega), run_bound (P := P) (w := w) (y := bh.toNat) hk h0 (by omega)]
  unfold Instr.slice
  simp [Sem.run_bind, run_underlying hu, key, hs w]
theorem or_slice_val {n : Nat} {lo hi mx : Option Operand} {bl bh bm : Int} (hu : P.underlying t = some (.slice e)) (hs : TSize P e size) (hx : a.eval x = .slice A n c) (hl : Bnd a lo bl 0) (hh : Bnd a hi bh n) (hm : Bnd a mx bm c) (h0 : 0 ≤ bl) (h1 : bl ≤ bh) (h2 : bh ≤ bm) (h3 : bm ≤ c) (hn : n ≤ c) (hmh : mx.isSome = true → hi.isSome = true) :
    (execOp a.eval ⟨some d, .slice t x lo hi mx, ty, pos, after, guard⟩).run P w = .ok (.value (.slice (if bm.toNat = bl.toNat then A else A.map (·.add (bl.toNat * size))) (bh.toNat - bl.toNat) (bm.toNat - bl.toNat))) w := by
  have ht : P.underlying t = some (.slice (P.elem t)) := by simp [Program.elem, hu]
  simp only [execOp, hx]
  simp [Sem.run_bind, run_sliceAt_slice w t _ _ _ _ ht, run_slice_any (P := P) (a := a) (A := A) (w := w) hu hs hl hh hm h0 h1 h2 h3 hn hmh]
theorem or_view {lo hi mx : Option Operand} {bl bh bm : Int} (hu : P.underlying t = some (.slice e)) (hs : TSize P e R.s) (hx : a.eval x = .slice A l.length c) (hl : Bnd a lo bl 0) (hh : Bnd a hi bh l.length) (hm : Bnd a mx bm c) (h : RdO own L w R A c l) (hc : cut l bl bh = some l') (hbm : bm = c ∨ bm = bh) (hmh : mx.isSome = true → hi.isSome = true) :
    OpR P ⟨some d, .slice t x lo hi mx, ty, pos, after, guard⟩ a w (Post T own a w (Fct.view L d R l') (some d)) := by
  obtain ⟨h1, h2, h3, _, h5⟩ := cut_some hc
  have hlc := h.1
  have hb : bh ≤ bm ∧ bm ≤ c := by rcases hbm with rfl | rfl <;> omega
  unfold OpR Oper.wp
  rw [or_slice_val (e := e) hu hs hx hl hh hm h1 h2 hb.1 hb.2 hlc hmh, ← h5]
  exact ⟨_, rfl, own, Evo.refl _ _ _, fun a' ha => ⟨(_, _), ha.1 d rfl, h.cut_ hc (by omega)⟩⟩
theorem or_lit {F : En α} {cs : Array Value} {n : Nat} {o : Oper} (h : OpR P o a w (Post T own a w (Fct.blk lab d (fun g => .slice (some ⟨g, 0, none⟩) n n) e cs) o.dst)) (hn : l.length = n) (hcs : cs.toList = enc F l) (hm : n ≤ maxLen) : OpR P o a w (Post T own a w (Fct.row lab [] d e (Rep.fl F) l) o.dst) := by
  refine or_mono h fun own' a' w' v _ hp => ?_
  obtain ⟨g, hv, hg, hb⟩ := hp
  subst hn
  have hl := RepL.len (RepL.enc F w' (fun b => At own' [] w' b ∧ b ≠ g) l)
  have hl : (enc F l).length = l.length * F.s := hl
  refine ⟨(some ⟨g, 0, none⟩, l.length), hv, .inr ⟨g, cs, rfl, hg, hb, Nat.le_refl _, hm, ?_, ?_⟩⟩
  · rw [← Array.length_toList, hcs]; exact hl
  · rw [List.take_of_length_le (by rw [hcs, hl]; exact Nat.le_refl _), hcs]
    exact RepL.enc F w' _ l
end
theorem hits_sub {T L L' : List Nat} (h : hits T L = false) (hL : ∀ x ∈ L', x ∈ L) : hits T L' = false := by
  cases h' : hits T L' with
  | false => rfl
  | true =>
    obtain ⟨t, ht, hl⟩ := List.any_eq_true.1 h'
    obtain ⟨x, hx, hb⟩ := List.any_eq_true.1 hl
    have : hits T L = true := List.any_eq_true.2 ⟨t, ht, List.any_eq_true.2 ⟨x, hL x hx, hb⟩⟩
    rw [h] at this; cases this
def look0 (m : List (Nat × Nat)) (x : Nat) : Nat := match m with
  | [] => 0
  | p :: r => if Nat.beq p.1 x then p.2 else look0 r x
theorem look0_le {m : List (Nat × Nat)} {j : Nat} {own : Own} (h : (m.all fun p => Nat.ble p.2 j) = true) : ∀ b, forth own (look0 m) b ≤ j := by
  intro b
  show look0 m (own b) ≤ j
  generalize own b = x
  induction m with
  | nil => exact Nat.zero_le _
  | cons p r ih =>
    simp only [List.all_cons, Bool.and_eq_true] at h
    unfold look0
    split
    · exact Nat.le_of_ble_eq_true h.1
    · exact ih h.2
section
variable {T K : List Nat} {own : Own} {w : World} {d : Nat} {a : Act} {m m' : Nat → Nat}
theorem post_mems {β : Type} {V : β → Value} {q : β → Own → World → Prop} {f : Fct}
    (hm : ∀ l, (l ∈ T → l = 0) → m l = 0 ∨ (m l ∉ K ∧ m' (m l) = l)) (hb : ∀ (own' : Own) (w' : World) (a' : Act) (x : β), a'.eval (.tmp d) = V x → q x own' w' → f.p (back own own' w m') a' w') :
    ∀ (e' : Ending) (w' : World), (∃ (own' : Own) (x : β), e' = .returned (V x) ∧ Evo K (forth own m) own' w w' ∧ q x own' w') → ∃ v, e' = .returned v ∧ Post T own a w f (some d) v w' := by
  rintro e' w' ⟨own', x, he, hev, hO⟩
  exact ⟨_, he, _, Evo.back_ hev hm, fun a' ha => hb _ _ _ _ (ha.1 d rfl) hO⟩
end
def inL (La : List Nat) (l : Nat) : Nat := if La.any (Nat.beq l) then 1 else 0
theorem inL_le {La : List Nat} {own : Own} : ∀ b, forth own (inL La) b ≤ 1 := by
  intro b
  show inL La (own b) ≤ 1
  unfold inL
  split <;> omega
theorem inL_mem {La : List Nat} {l : Nat} (h : inL La l = 1) : l ∈ La := by
  unfold inL at h
  split at h
  · rename_i h1; exact mem_of h1
  · cases h
theorem inL_of {La : List Nat} {l : Nat} (h : l ∈ La) : inL La l = 1 := if_pos (List.any_eq_true.2 ⟨l, h, by simp⟩)
def backN (own own' : Own) (w : World) (m : Nat → Nat) : Own := fun b => if b < w.heap.size then own b else m (own' b)
section
variable {α : Type} {R : Rep α} {T La L L' : List Nat} {own own' : Own} {w w' : World} {d : Nat} {a : Act} {m' : Nat → Nat} {A : Option Addr} {c lab : Nat} {l : List α} {e : TypeId}
theorem RdO.alias_ (h : RdO own L w R A c l) (hL : ∀ x ∈ L, x ∈ La) : RdO (forth own (inL La)) [1] w R A c l :=
  h.sub fun b hb => ⟨by show inL La (own b) ∈ [1]; rw [inL_of (hL _ hb.1)]; simp, hb.2⟩
theorem RdO.backN_ (ho : ∀ b, b < w.heap.size → own' b = inL La (own b)) (hs : w.heap.size ≤ w'.heap.size) (h : RdO own' L w' R A c l) (h0 : 0 ∉ L) (hL : ∀ x ∈ La, x ∈ L') (hm : ∀ x ∈ L, m' x ∈ L') : RdO (backN own own' w m') L' w' R A c l :=
  h.sub fun b hb => ⟨by
    unfold backN
    by_cases hlt : b < w.heap.size
    · rw [if_pos hlt]
      have h1 := ho b hlt
      have h2 : inL La (own b) = 1 := by
        have : inL La (own b) ≠ 0 := fun h3 => h0 (by rw [← h3, ← h1]; exact hb.1)
        have := inL_le (La := La) (own := own) b
        have : inL La (own b) ≤ 1 := this
        omega
      exact hL _ (inL_mem h2)
    · rw [if_neg hlt]; exact hm _ hb.1, hb.2⟩
theorem post_alias {β : Type} {V : β → Value} {q : β → Own → World → Prop} {f : Fct}
    (hb : ∀ (own' : Own) (w' : World) (a' : Act) (x : β), (∀ b, b < w.heap.size → own' b = inL La (own b)) → w.heap.size ≤ w'.heap.size → a'.eval (.tmp d) = V x → q x own' w' → f.p (backN own own' w m') a' w') :
    ∀ (e' : Ending) (w' : World), (∃ (own' : Own) (x : β), e' = .returned (V x) ∧ Evo [] (forth own (inL La)) own' w w' ∧ q x own' w') → ∃ v, e' = .returned v ∧ Post T own a w f (some d) v w' := by
  rintro e' w' ⟨own', x, he, hev, hO⟩
  have ho : ∀ b, b < w.heap.size → own' b = inL La (own b) := fun b hb => (hev.keep b hb (fun h => by cases h)).1
  exact ⟨_, he, backN own own' w m', ⟨hev.os, hev.tape, hev.output, hev.size, fun b hb _ => ⟨if_pos hb, (hev.keep b hb (fun h => by cases h)).2⟩⟩, fun a' ha => hb _ _ _ _ ho hev.size (ha.1 d rfl) hO⟩
end
end Go.Proofs.Ythkmkmkcnljmaaa
