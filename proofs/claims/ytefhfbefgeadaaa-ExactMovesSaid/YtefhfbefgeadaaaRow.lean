/-
  Slices: those that read as a list, and those of the call's own, to which is appended. No program in sight.
-/
import Derived.Test.YtefhfbefgeadaaaFlow
import Derived.Maps.AppendAt
import Derived.Laws.Slices
namespace Go.Proofs.Ytefhfbefgeadaaa
open Go.RowKit

/-! ### lists of things that are some cells each -/
/-- The cells of a list. -/
def en {α : Type} (f : α → List Value) : List α → List Value
  | [] => []
  | x :: r => f x ++ en f r
section
variable {α : Type} {f : α → List Value} {s : Nat}
theorem en_nil : en f [] = [] := rfl
theorem en_cons (x : α) (r : List α) : en f (x :: r) = f x ++ en f r := rfl
theorem en_append (l m : List α) : en f (l ++ m) = en f l ++ en f m := by
  induction l with
  | nil => rfl
  | cons x r ih => simp [en, ih]
theorem en_one (x : α) : en f [x] = f x := by simp [en]
theorem en_len (hf : ∀ x, (f x).length = s) (l : List α) : (en f l).length = l.length * s := by
  induction l with
  | nil => simp [en]
  | cons x r ih => simp only [en, List.length_append, hf, ih, List.length_cons, Nat.add_mul]; omega
theorem en_drop (hf : ∀ x, (f x).length = s) (l : List α) (k : Nat) : (en f l).drop (k * s) = en f (l.drop k) := by
  induction l generalizing k with
  | nil => simp [en]
  | cons x r ih =>
    match k with
    | 0 => simp
    | k + 1 =>
      rw [List.drop_succ_cons, ← ih k, en_cons, List.drop_append, hf, List.drop_eq_nil_of_le (by rw [hf, Nat.add_mul]; omega)]
      rw [show (k + 1) * s - s = k * s from by rw [Nat.add_mul]; omega]
      rfl
theorem en_take (hf : ∀ x, (f x).length = s) (l : List α) (k : Nat) : (en f l).take (k * s) = en f (l.take k) := by
  induction l generalizing k with
  | nil => simp [en]
  | cons x r ih =>
    match k with
    | 0 => simp [en]
    | k + 1 =>
      rw [List.take_succ_cons, en_cons, en_cons, ← ih k, List.take_append, hf, List.take_of_length_le (by rw [hf, Nat.add_mul]; omega)]
      rw [show (k + 1) * s - s = k * s from by rw [Nat.add_mul]; omega]
theorem en_at (hf : ∀ x, (f x).length = s) (l : List α) (k : Nat) (d : α) (h : k < l.length) : ((en f l).drop (k * s)).take (f (l.getD k d)).length = f (l.getD k d) := by
  rw [en_drop hf, List.drop_eq_getElem_cons h, en_cons]
  have e : l.getD k d = l[k] := by simp [List.getD_eq_getElem?_getD, h]
  rw [e, List.take_append, List.take_of_length_le (Nat.le_refl _)]
  simp
end
/-- whole numbers -/
def fI (n : Int) : List Value := [.int .i64 n]
theorem fI_len (n : Int) : (fI n).length = 1 := rfl
/-- points -/
def fP (p : Int × Int) : List Value := [.int .i64 p.1, .int .i64 p.2]
theorem fP_len (p : Int × Int) : (fP p).length = 2 := rfl
/-- three numbers -/
def f3 (p : Int × Int × Int) : List Value := [.int .i64 p.1, .int .i64 p.2.1, .int .i64 p.2.2]
theorem f3_len (p : Int × Int × Int) : (f3 p).length = 3 := rfl
theorem ptC_en (l : List Pt) : ptC l = en fP l := by
  induction l with
  | nil => rfl
  | cons p r ih => simp [ptC, en, fP, ih]
theorem snoc_take {α : Type} (l : List α) (k : Nat) (d : α) (h : k < l.length) : l.take (k + 1) = l.take k ++ [l.getD k d] := by
  rw [List.take_succ_eq_append_getElem h]
  simp [List.getD_eq_getElem?_getD, h]
def cellsOne (xs : List Value) : Bool := xs.all (·.oneCell')
theorem en_one' {α : Type} {f : α → List Value} (hf : ∀ x, ∀ u ∈ f x, u.oneCell' = true) (l : List α) : ∀ u ∈ en f l, u.oneCell' = true := by
  induction l with
  | nil => intro u hu; simp [en] at hu
  | cons x r ih => intro u hu; rw [en_cons, List.mem_append] at hu; exact hu.elim (hf x u) (ih u)
theorem fI_one (x : Int) : ∀ u ∈ fI x, u.oneCell' = true := by intro u hu; simp [fI] at hu; subst hu; rfl
theorem fP_one (x : Int × Int) : ∀ u ∈ fP x, u.oneCell' = true := by intro u hu; simp [fP] at hu; rcases hu with rfl | rfl <;> rfl
theorem f3_one (x : Int × Int × Int) : ∀ u ∈ f3 x, u.oneCell' = true := by intro u hu; simp [f3] at hu; rcases hu with rfl | rfl | rfl <;> rfl

/-! ### a slice of the call's own -/
def Own_ (w : World) (base : Nat) (e : TypeId) (size : Nat) (A : Option Addr) (n c : Nat) (xs : List Value) : Prop := w.ownsRow base e size (.slice A n c) n xs

section
variable {w w' : World} {base : Nat} {e : TypeId} {size n c : Nat} {A : Option Addr} {xs : List Value}
theorem Own_.nil : Own_ w base e size none 0 0 [] := ⟨by simp, .inl ⟨rfl, rfl⟩⟩
theorem Own_.len (h : Own_ w base e size A n c xs) : xs.length = n * size := h.1
theorem Own_.cases_ (h : Own_ w base e size A n c xs) : (A = none ∧ n = 0 ∧ c = 0) ∨ ∃ g, A = some ⟨g, 0, none⟩ ∧ base ≤ g ∧ g < w.heap.size ∧ n ≤ c ∧ ∃ cur, Blk w g e cur ∧ cur.size = c * size ∧ cur.toList.take (n * size) = xs := by
  rcases h.2 with ⟨h, h0⟩ | ⟨g, cap, cur, hv, hb, hg, h1, _, h3, h4⟩
  · injection h with h1 h2 h3; exact .inl ⟨h1, h0, h3⟩
  · injection hv with h5 h6 h7
    subst h7
    have hB : Blk w g e cur := hg
    exact .inr ⟨g, h5, hb, hB.lt, h1, cur, hB, h3, h4⟩
theorem Own_.rng (h : Own_ w base e size A n c xs) : ∀ b, A = some ⟨b, 0, none⟩ → base ≤ b ∧ b < w.heap.size := by
  intro b hb
  rcases h.cases_ with ⟨h0, _⟩ | ⟨g, hg, h1, h2, _⟩
  · rw [hb] at h0; cases h0
  · rw [hb] at hg; injection hg with hg; injection hg with hg; omega
theorem Own_.lec (h : Own_ w base e size A n c xs) : n ≤ c := by
  rcases h.cases_ with ⟨_, h1, h2⟩ | ⟨g, _, _, _, h3, _⟩ <;> omega
theorem Own_.lem (h : Own_ w base e size A n c xs) : c ≤ maxLen := by
  rcases h.2 with ⟨h, _⟩ | ⟨g, cap, cur, hv, _, _, _, h2, _⟩
  · injection h with h1 h2 h3; rw [h3]; exact Nat.zero_le _
  · injection hv with h5 h6 h7; rw [h7]; exact h2
theorem Own_.reads (h : Own_ w base e size A n c xs) : Reads w w.heap.size size A n xs := Reads.of_own h
theorem Own_.same (h : Own_ w base e size A n c xs) (hs : ∀ b, A = some ⟨b, 0, none⟩ → w'.heap[b]? = w.heap[b]?) : Own_ w' base e size A n c xs := by
  obtain ⟨hl, h⟩ := h
  refine ⟨hl, ?_⟩
  rcases h with h | ⟨g, cap, cur, hv, hb, hg, r⟩
  · exact .inl h
  · refine .inr ⟨g, cap, cur, hv, hb, ?_, r⟩
    injection hv with h5
    exact (hs g h5).trans hg
theorem Own_.ext {ex : Nat → Prop} (h : Own_ w base e size A n c xs) (hE : Ext ex w w') (hn : ∀ b, A = some ⟨b, 0, none⟩ → ¬ ex b) : Own_ w' base e size A n c xs :=
  h.same fun b hb => hE.block b (h.rng b hb).2 (hn b hb)
theorem Own_.lower {base' : Nat} (h : Own_ w base e size A n c xs) (hb : base' ≤ base) : Own_ w base' e size A n c xs := by
  obtain ⟨hl, h | ⟨g, cap, cur, hv, hg, r⟩⟩ := h
  · exact ⟨hl, .inl h⟩
  · exact ⟨hl, .inr ⟨g, cap, cur, hv, Nat.le_trans hb hg, r⟩⟩
theorem own_ne_blk {g : Nat} {t : TypeId} {cs : Array Value} (h : Own_ w base e size A n c xs) (hb : Blk w g t cs) (hne : e ≠ t) : A ≠ some ⟨g, 0, none⟩ := by
  intro hA
  rcases h.cases_ with ⟨h0, _⟩ | ⟨g', hg', _, _, _, cur, hB, _⟩
  · rw [hA] at h0; cases h0
  · rw [hA] at hg'; injection hg' with hg'; injection hg' with hg'; subst hg'
    exact Blk.ne_ hB hb hne rfl
theorem own_ne_own {base' : Nat} {e' : TypeId} {size' n' c' : Nat} {A' : Option Addr} {xs' : List Value} (h : Own_ w base e size A n c xs) (h' : Own_ w base' e' size' A' n' c' xs') (hne : e ≠ e') : ∀ b, A = some ⟨b, 0, none⟩ → A' ≠ some ⟨b, 0, none⟩ := by
  intro b hA
  rcases h.cases_ with ⟨h0, _⟩ | ⟨g', hg', _, _, _, cur, hB, _⟩
  · rw [hA] at h0; cases h0
  · rw [hA] at hg'; injection hg' with hg'; injection hg' with hg'; subst hg'
    exact own_ne_blk h' hB (Ne.symm hne)
theorem Own_.toOwns (h : Own_ w base e size A n c xs) : w.ownsRow base e size (.slice A n c) n xs := h
end
theorem own_of {w : World} {base : Nat} {e : TypeId} {size n : Nat} {v : Value} {xs : List Value} (h : w.ownsRow base e size v n xs) : ∃ A c, v = .slice A n c ∧ Own_ w base e size A n c xs := by
  have h0 := h
  rcases h.2 with ⟨rfl, rfl⟩ | ⟨g, cap, cur, rfl, _⟩
  · exact ⟨none, 0, rfl, h0⟩
  · exact ⟨_, _, rfl, h0⟩

/-- A slice of the region's making. -/
def Fct.row (k t base : Nat) (e : TypeId) (size n : Nat) (xs : List Value) : Fct :=
  ⟨k, [t], fun own a w => ∃ A c, a.eval (.tmp t) = .slice A n c ∧ (∀ b, A = some ⟨b, 0, none⟩ → own b = k) ∧ Own_ w base e size A n c xs, fun hk ha he ⟨A, c, hv, ho, hr⟩ =>
    have h := fun b hb => he.keep b (hr.rng b hb).2 (by rw [ho b hb]; exact hk)
    ⟨A, c, (ha t (by simp)).trans hv, fun b hb => (h b hb).1.trans (ho b hb), hr.same fun b hb => (h b hb).2⟩⟩
/-- A slice that was there. -/
def Fct.rowAt (k base : Nat) (e : TypeId) (size : Nat) (A : Option Addr) (n c : Nat) (xs : List Value) : Fct :=
  ⟨k, [], fun own _ w => (∀ b, A = some ⟨b, 0, none⟩ → own b = k) ∧ Own_ w base e size A n c xs, fun hk _ he ⟨ho, hr⟩ =>
    have h := fun b hb => he.keep b (hr.rng b hb).2 (by rw [ho b hb]; exact hk)
    ⟨fun b hb => (h b hb).1.trans (ho b hb), hr.same fun b hb => (h b hb).2⟩⟩

/-- What 'append' must know of a type of slices. -/
def TApp (P : Program) (t e : TypeId) (size bytes : Nat) : Prop := P.underlying t = some (.slice e) ∧ ∃ i z, P.info? e = some i ∧ i.zero = some z ∧ i.size = size ∧ i.bytes = bytes ∧ z.cells.size = size ∧ 0 < size

section
variable {P : Program}
theorem run_append_nil_ {w : World} {t ty e : TypeId} {size bytes : Nat} (hT : TApp P t e size bytes) {base n c : Nat} {A : Option Addr} {xs : List Value} (ho : Own_ w base e size A n c xs) (c2 : Nat) : (Builtin.append_ #[t, t] ty #[.slice A n c, .slice none 0 c2]).run P w = .ok (.slice A n c) w := by
  obtain ⟨ht, i, z, hi, hz, hsz, hby, hzs, hpos⟩ := hT
  rcases ho.cases_ with ⟨rfl, rfl, rfl⟩ | ⟨g, rfl, _, _, hnc, _⟩
  · simp [Builtin.append_, run_underlying ht, sizeOf, typeInfo, hi, Builtin.lenOf, Builtin.firstCells]
  · simp [Builtin.append_, run_underlying ht, sizeOf, typeInfo, hi, Builtin.lenOf, Builtin.firstCells, hnc, storeCells]
theorem run_append_reads {w : World} {t ty e : TypeId} {size bytes : Nat} (hT : TApp P t e size bytes) {base n c : Nat} {A : Option Addr} {xs : List Value} (ho : Own_ w base e size A n c xs)
    {B m c2 : Nat} {A2 : Option Addr} {news : List Value} (hr : Reads w B size A2 m news) (h1 : ∀ u ∈ news, u.oneCell' = true) (hb : (n + m) * bytes ≤ 140737488355328) (hb8 : 0 < bytes) (hbase : base ≤ w.heap.size) :
    ∃ A' c' w', (Builtin.append_ #[t, t] ty #[.slice A n c, .slice A2 m c2]).run P w = .ok (.slice A' (n + m) c') w' ∧ Own_ w' base e size A' (n + m) c' (xs ++ news) ∧ Ext (fun b => A = some ⟨b, 0, none⟩) w w' ∧ (∀ b, A' = some ⟨b, 0, none⟩ → A = some ⟨b, 0, none⟩ ∨ b = w.heap.size) := by
  rcases Nat.eq_zero_or_pos m with h0 | hm
  · subst h0
    have hn : news = [] := List.eq_nil_of_length_eq_zero (by simpa using hr.1)
    subst hn
    cases A2 with
    | none => exact ⟨A, c, w, run_append_nil_ hT ho c2, by simpa using ho, Ext.refl _ _, fun b hb => .inl hb⟩
    | some ad =>
      obtain ⟨ht, i, z, hi, hz, hsz, hby, hzs, hpos⟩ := hT
      obtain ⟨v', w', h2, h3, h4, _, h6⟩ := run_append_own_at (P := P) w base t ty e i z size bytes ht hi hz hsz hby hzs hpos (.slice A n c) n xs ho ad 0 c2 [] (by simp) (by simp) (by simp) (by have := ho.lec; have := ho.lem; omega) hb hbase
      obtain ⟨A', c', rfl, hO⟩ := own_of h3
      refine ⟨A', c', w', h2, hO, ⟨h4.os, h4.tape, h4.output, h4.size, fun b hb hn => h4.block b hb ?_⟩, ?_⟩
      · intro e
        rcases ho.cases_ with ⟨rfl, _⟩ | ⟨g, rfl, _⟩
        · simp [Value.ownBlock] at e
        · simp [Value.ownBlock] at e; exact hn (by rw [e])
      · rintro b rfl
        rcases h6 with h | h
        · rcases ho.cases_ with ⟨rfl, _⟩ | ⟨g, rfl, _⟩
          · simp [Value.ownBlock] at h
          · simp [Value.ownBlock] at h; exact .inl (by rw [h])
        · simp [Value.ownBlock] at h; exact .inr h
  · obtain ⟨b2, off, rfl, _, hc⟩ := hr.2 hm
    obtain ⟨ht, i, z, hi, hz, hsz, hby, hzs, hpos⟩ := hT
    obtain ⟨v', w', h2, h3, h4, _, h6⟩ := run_append_own_at (P := P) w base t ty e i z size bytes ht hi hz hsz hby hzs hpos (.slice A n c) n xs ho ⟨b2, off, none⟩ m c2 news hr.1 (fun j u hu => by
      have e : (⟨b2, off, none⟩ : Addr).add j = ⟨b2, off + j, none⟩ := by unfold Addr.add; split <;> simp_all
      rw [e]; exact hc j u hu) h1 (by
        have : n + m ≤ (n + m) * bytes := Nat.le_mul_of_pos_right _ hb8
        simp only [maxLen]; omega) hb hbase
    obtain ⟨A', c', rfl, hO⟩ := own_of h3
    refine ⟨A', c', w', h2, hO, ⟨h4.os, h4.tape, h4.output, h4.size, fun b hb hn => h4.block b hb ?_⟩, ?_⟩
    · intro e
      rcases ho.cases_ with ⟨rfl, _⟩ | ⟨g, rfl, _⟩
      · simp [Value.ownBlock] at e
      · simp [Value.ownBlock] at e; exact hn (by rw [e])
    · rintro b rfl
      rcases h6 with h | h
      · rcases ho.cases_ with ⟨rfl, _⟩ | ⟨g, rfl, _⟩
        · simp [Value.ownBlock] at h
        · simp [Value.ownBlock] at h; exact .inl (by rw [h])
      · simp [Value.ownBlock] at h; exact .inr h

section
variable {pu : Bool} {T : List Nat} {own : Own} {a : Act} {w : World} {k d : Nat} {x y : Operand} {t ty e : TypeId} {pos : String} {after : Array Edge} {guard : Option (Nat × Bool)}
theorem or_append {size bytes base n c n' B m c2 : Nat} {A A2 : Option Addr} {xs xs' news : List Value} (hT : TApp P t e size bytes) (hpu : pu = false) (hx : a.eval x = .slice A n c) (ho : Own_ w base e size A n c xs) (hy : a.eval y = .slice A2 m c2)
    (hr : Reads w B size A2 m news) (h1 : ∀ u ∈ news, u.oneCell' = true) (hb : (n + m) * bytes ≤ 140737488355328) (hb8 : 0 < bytes) (hbase : base ≤ w.heap.size) (hg : ∀ b, A = some ⟨b, 0, none⟩ → own b ∈ T) (hn : n + m = n') (hxs : xs ++ news = xs') :
    OpR P ⟨some d, .call ⟨.builtin .append, #[x, y], #[t, t]⟩, ty, pos, after, guard⟩ a w (Post pu T own a w (Fct.row k d base e size n' xs') (some d)) := by
  subst hn hxs
  obtain ⟨A', c', w', hrun, hO, hE, hA⟩ := run_append_reads (P := P) (ty := ty) hT ho (c2 := c2) hr h1 hb hb8 hbase
  unfold OpR Oper.wp
  have hr' : (execOp a.eval ⟨some d, .call ⟨.builtin .append, #[x, y], #[t, t]⟩, ty, pos, after, guard⟩).run P w = .ok (.value (.slice A' (n + m) c')) w' := by
    simp only [execOp, resolve, invoke, builtin, List.map_toArray, List.map_cons, List.map_nil, hx, hy]
    simp [Sem.run_bind, hrun]
  rw [hr']
  refine ⟨_, rfl, fun h => (by rw [hpu] at h; cases h), fun b => if b < w.heap.size ∧ A ≠ some ⟨b, 0, none⟩ then own b else k, ⟨hE.os, hE.tape, hE.output, hE.size, fun b hb hT => ?_⟩, fun a' ha => ⟨A', c', ha.1 d rfl, fun b hb => ?_, hO⟩⟩
  · have hne : A ≠ some ⟨b, 0, none⟩ := fun h => hT (hg b h)
    exact ⟨by simp [hb, hne], hE.block b hb hne⟩
  · rcases hA b hb with h | h
    · simp [h]
    · simp [h]
/-- A piece of a slice. -/
theorem or_slice {size n c lo hi : Nat} {A : Option Addr} {e' : TypeId} {kl kh : IntKind} {l h : Operand} (hu : P.underlying t = some (.slice e')) (hs : TSize P e' size) (hx : a.eval x = .slice A n c) (hl : a.eval l = .int kl (lo : Int)) (hh : a.eval h = .int kh (hi : Int)) (h1 : lo ≤ hi) (h2 : hi ≤ c) :
    OpR P ⟨some d, .slice t x (some l) (some h) none, ty, pos, after, guard⟩ a w (Post pu T own a w (Fct.val k d (.slice (if c = lo then A else A.map (·.add (lo * size))) (hi - lo) (c - lo))) (some d)) :=
  or_val (o := ⟨some d, .slice t x (some l) (some h) none, ty, pos, after, guard⟩) rfl (by
    have ht : P.underlying t = some (.slice (P.elem t)) := by simp [Program.elem, hu]
    have he : P.elem t = e' := by simp [Program.elem, hu]
    simp only [execOp, hx, Option.map_some, Option.map_none, hl, hh]
    simp [Sem.run_bind, run_sliceAt_slice w t _ _ _ _ ht, run_slice_lh w t A n c ht kl kh lo hi (by omega) (by omega) (by omega), sliced, he, hs w])
theorem or_slice_to {size n c hi : Nat} {A : Option Addr} {e' : TypeId} {kh : IntKind} {h : Operand} (hu : P.underlying t = some (.slice e')) (hs : TSize P e' size) (hx : a.eval x = .slice A n c) (hh : a.eval h = .int kh (hi : Int)) (h2 : hi ≤ c) :
    OpR P ⟨some d, .slice t x none (some h) none, ty, pos, after, guard⟩ a w (Post pu T own a w (Fct.val k d (.slice A hi c)) (some d)) :=
  or_val (o := ⟨some d, .slice t x none (some h) none, ty, pos, after, guard⟩) rfl (by
    have ht : P.underlying t = some (.slice (P.elem t)) := by simp [Program.elem, hu]
    have he : P.elem t = e' := by simp [Program.elem, hu]
    simp only [execOp, hx, Option.map_some, Option.map_none, hh]
    simp [Sem.run_bind, run_sliceAt_slice w t _ _ _ _ ht, run_slice_h w t A n c ht kh hi (by omega) (by omega), sliced, he, hs w]
    cases A <;> simp [Addr.add])
theorem or_slice_from {size n c lo : Nat} {A : Option Addr} {e' : TypeId} {kl : IntKind} {l : Operand} (hu : P.underlying t = some (.slice e')) (hs : TSize P e' size) (hx : a.eval x = .slice A n c) (hl : a.eval l = .int kl (lo : Int)) (h1 : lo ≤ n) (h2 : n ≤ c) :
    OpR P ⟨some d, .slice t x (some l) none none, ty, pos, after, guard⟩ a w (Post pu T own a w (Fct.val k d (.slice (if c = lo then A else A.map (·.add (lo * size))) (n - lo) (c - lo))) (some d)) :=
  or_val (o := ⟨some d, .slice t x (some l) none none, ty, pos, after, guard⟩) rfl (by
    have ht : P.underlying t = some (.slice (P.elem t)) := by simp [Program.elem, hu]
    have he : P.elem t = e' := by simp [Program.elem, hu]
    simp only [execOp, hx, Option.map_some, Option.map_none, hl]
    simp [Sem.run_bind, run_sliceAt_slice w t _ _ _ _ ht, run_slice_l w t A n c ht kl lo (by omega) (by omega), sliced, he, hs w])
end
end
end Go.Proofs.Ytefhfbefgeadaaa
namespace Go.Proofs.Ytefhfbefgeadaaa
open Go.RowKit
/-- What holds between slots. -/
def Fct.rel (k : Nat) (ts : List Nat) (q : List Value → Prop) : Fct :=
  ⟨k, ts, fun _ a _ => q (ts.map fun t => a.eval (.tmp t)), fun _ ha _ h => by rw [List.map_congr_left ha]; exact h⟩
theorem oper_wp_mono_ {P : Program} {o : Oper} {a : Act} {w : World} {K K' : Act → World → Prop} (h : o.wp P a w K (fun _ _ _ => False)) (hk : ∀ a w, K a w → K' a w) : o.wp P a w K' (fun _ _ _ => False) := oper_wp_q hk h
theorem or_mono {P : Program} {pu : Bool} {T : List Nat} {own : Own} {a : Act} {w : World} {o : Oper} {f f2 : Fct} (h : OpR P o a w (Post pu T own a w f o.dst))
    (hf : ∀ own' a' w' v, Put a o.dst v a' → f.p own' a' w' → f2.p own' a' w') : OpR P o a w (Post pu T own a w f2 o.dst) :=
  oper_wp_mono_ h fun _ _ ⟨v, he, hp, own', hev, hq⟩ => ⟨v, he, hp, own', hev, fun a' ha => hf own' a' _ v ha (hq a' ha)⟩
theorem reads_ptC {w : World} {B n : Nat} {A : Option Addr} {l : List Pt} (h : Reads w B 2 A n (en fP l)) : Reads w B 2 A n (ptC l) := by rw [ptC_en]; exact h
theorem reads_enP {w : World} {B n : Nat} {A : Option Addr} {l : List Pt} (h : Reads w B 2 A n (ptC l)) : Reads w B 2 A n (en fP l) := by rw [← ptC_en]; exact h
end Go.Proofs.Ytefhfbefgeadaaa
namespace Go.Proofs.Ytefhfbefgeadaaa
open Go.RowKit
def TGuard (P : Program) (t : TypeId) : Prop := ∀ (op : BinOp) (x y : Operand) (xs ys : Array Value) (w : World), (eqGuard op t x y (.agg xs) (.agg ys)).run P w = .ok () w
section
variable {P : Program} {pu : Bool} {T : List Nat} {own : Own} {a : Act} {w : World} {k d : Nat} {x y : Operand} {ty t t2 : TypeId} {pos : String} {after : Array Edge} {guard : Option (Nat × Bool)} {b b' : Bool} {xs ys : Array Value}
theorem or_eqlA (hg : TGuard P t) (hx : a.eval x = .agg xs) (hy : a.eval y = .agg ys) (hr : (binOp .eql t (.agg xs) (.agg ys)).run P w = .ok (.bool b) w) (hb : b = b') : OpR P ⟨some d, .binOp .eql t x y t2, ty, pos, after, guard⟩ a w (Post pu T own a w (Fct.val k d (.bool b')) (some d)) :=
  or_val (o := ⟨some d, .binOp .eql t x y t2, ty, pos, after, guard⟩) rfl (by subst hb; simp only [execOp, hx, hy]; simp [Sem.run_bind, hg _ _ _ _ _ _, hr])
theorem or_neqA (hg : TGuard P t) (hx : a.eval x = .agg xs) (hy : a.eval y = .agg ys) (hr : (binOp .neq t (.agg xs) (.agg ys)).run P w = .ok (.bool b) w) (hb : b = b') : OpR P ⟨some d, .binOp .neq t x y t2, ty, pos, after, guard⟩ a w (Post pu T own a w (Fct.val k d (.bool b')) (some d)) :=
  or_val (o := ⟨some d, .binOp .neq t x y t2, ty, pos, after, guard⟩) rfl (by subst hb; simp only [execOp, hx, hy]; simp [Sem.run_bind, hg _ _ _ _ _ _, hr])
end
theorem tapp_of {P : Program} {t e : TypeId} {size bytes : Nat} {z : Value} (hu : P.underlying t = some (.slice e)) (h : (P.info? e).map (fun i => (i.zero, i.size, i.bytes)) = some (some z, size, bytes)) (hz : z.cells.size = size) (h0 : 0 < size) : TApp P t e size bytes := by
  obtain ⟨i, h1, h2, h3, h4⟩ := info_parts h
  exact ⟨hu, i, z, h1, h2, h3, h4, hz, h0⟩
theorem reads_take {α : Type} {f : α → List Value} {s : Nat} (hf : ∀ x, (f x).length = s) {w : World} {B n k : Nat} {A : Option Addr} {l : List α} (h : Reads w B s A n (en f l)) (hk : k ≤ n) : Reads w B s A k (en f (l.take k)) := by
  have := h.take_ hk
  rwa [en_take hf] at this
theorem reads_drop {α : Type} {f : α → List Value} {s : Nat} (hf : ∀ x, (f x).length = s + 1) {w : World} {B n k c : Nat} {A : Option Addr} {l : List α} (h : Reads w B (s + 1) A n (en f l)) (hk : k ≤ n) (hc : n ≤ c) : Reads w B (s + 1) (if c = k then A else A.map (·.add (k * (s + 1)))) (n - k) (en f (l.drop k)) := by
  have := h.cut hk hc (Nat.succ_pos _)
  rwa [en_drop hf] at this
end Go.Proofs.Ytefhfbefgeadaaa
namespace Go.Proofs.Ytefhfbefgeadaaa
open Go.RowKit
theorem post_row {pu : Bool} {T : List Nat} {own : Own} {a : Act} {w : World} {k d base : Nat} {e0 : TypeId} {size n : Nat} {xs : List Value} (hpu : pu = false) (hb : base ≤ w.heap.size) :
    ∀ (e : Ending) (w' : World), (∃ A c, e = .returned (.slice A n c) ∧ Own_ w' w.heap.size e0 size A n c xs ∧ Below w.heap.size w w') → ∃ v, e = .returned v ∧ Post pu T own a w (Fct.row k d base e0 size n xs) (some d) v w' := by
  rintro e w' ⟨A, c, he, hO, hB⟩
  refine ⟨_, he, fun h => (by rw [hpu] at h; cases h), newOwn w k own, Evo.ofBelow k hB, fun a' ha => ⟨A, c, ha.1 d rfl, fun b hb' => newOwn_new (hO.rng b hb').1, hO.lower hb⟩⟩
end Go.Proofs.Ytefhfbefgeadaaa
namespace Go.Proofs.Ytefhfbefgeadaaa
open Go.RowKit
theorem sg_nou {P : Program} {pu : Bool} {T : List Nat} {ops : List Oper} {own : Own} {a : Act} {w : World} {f : Fct} {o : Oper} {j : Nat} {b : Bool} {t : Tmp} (hg : o.guard = some (j, b)) (hs : slotOf ops j = some t) (he : a.eval (.tmp t) = undef) (h : ∀ a', Put a o.dst undef a' → f.p own a' w) : StepGoal P pu T ops own a w f o := by
  refine ⟨fun hw => ?_, fun _ => h⟩
  exfalso
  have he' : a.tmps.getD t undef = undef := he
  rw [Array.getD_eq_getD_getElem?] at he'
  simp only [slotOf] at hs
  simp only [Region.wanted, hg, yielded, List.getElem?_toArray, hs, Option.bind_some] at hw
  cases ht : a.tmps[t]? with
  | none => rw [ht] at hw; simp at hw
  | some u =>
    rw [ht] at he'
    simp at he'
    subst he'
    rw [ht] at hw
    simp [undef] at hw
end Go.Proofs.Ytefhfbefgeadaaa
namespace Go.Proofs.Ytefhfbefgeadaaa
open Go.RowKit
/-- A result's value. -/
def RVal (P : Program) (r : ResultVar) (a : Act) (w : World) (v : Value) : Prop := match r with
  | .tmp t => a.eval (.tmp t) = v
  | .cell p t => ∃ ad, a.eval (.tmp p) = .pointer (some ad) ∧ (loadVar t ad).run P w = .ok v w
section
variable {P : Program} {a : Act} {w : World} {fn : Func}
theorem RVal.tmp_ {t : Tmp} {v : Value} (h : a.eval (.tmp t) = v) : RVal P (.tmp t) a w v := h
theorem RVal.cell_ {p : Tmp} {t : TypeId} {ad : Addr} {v : Value} (h : a.eval (.tmp p) = .pointer (some ad)) (hl : (loadVar t ad).run P w = .ok v w) : RVal P (.cell p t) a w v := ⟨ad, h, hl⟩
theorem run_loadVarAgg {t : TypeId} {n : Nat} (hT : TAgg P t n) {p : Addr} {l : List Value} (hc : CellsAt w p l) (hl : l.length = n) : (loadVar t p).run P w = .ok (.agg l.toArray) w := by
  have h := run_loadAgg (P := P) hT hc hl
  simpa [Instr.loadAt, Instr.sureAddr] using h
theorem run_loadVarOne {t : TypeId} (hT : TOne P t) {p : Addr} {v : Value} (hc : w.cell? p = some v) : (loadVar t p).run P w = .ok v w := by
  have h := run_loadOne (P := P) hT hc
  simpa [Instr.loadAt, Instr.sureAddr] using h
def rsem (a : Act) : ResultVar → Sem Value
  | .tmp t => pure (a.tmps.getD t undef)
  | .cell p t => do loadVar t (← asAddr (a.tmps.getD p undef))
theorem rval_run {r : ResultVar} {v : Value} (h : RVal P r a w v) : (rsem a r).run P w = .ok v w := by
  cases r with
  | tmp t =>
    have : a.tmps.getD t undef = v := h
    simp only [rsem, this]
    rfl
  | cell p t =>
    obtain ⟨ad, h1, h2⟩ := h
    have h1 : a.tmps.getD p undef = .pointer (some ad) := h1
    simp only [rsem, h1, asAddr, Sem.run_bind, Sem.run_pure, Result.andThen_ok, h2]
theorem results_rsem (fn : Func) (a : Act) : results fn a.tmps = (do
    let vs ← fn.results.mapM (rsem a)
    pure (if h : vs.size = 1 then vs[0] else .tuple vs)) := by
  unfold results
  congr 1
theorem results0_ (h : fn.results = #[]) : (results fn a.tmps).run P w = .ok (.tuple #[]) w := results_none h _ P w
theorem results1_ {r : ResultVar} {v : Value} (h : fn.results = #[r]) (h1 : RVal P r a w v) : (results fn a.tmps).run P w = .ok v w := by
  have e1 := rval_run h1
  simp only [results_rsem, h, List.mapM_toArray, List.mapM_cons, List.mapM_nil, map_eq_pure_bind, Sem.run_bind, e1, Result.andThen_ok, Sem.run_pure]
  rfl
theorem results2_ {r s : ResultVar} {v u : Value} (h : fn.results = #[r, s]) (h1 : RVal P r a w v) (h2 : RVal P s a w u) : (results fn a.tmps).run P w = .ok (.tuple #[v, u]) w := by
  have e1 := rval_run h1
  have e2 := rval_run h2
  simp only [results_rsem, h, List.mapM_toArray, List.mapM_cons, List.mapM_nil, map_eq_pure_bind, Sem.run_bind, e1, e2, Result.andThen_ok, Sem.run_pure]
  rfl
theorem results3_ {r s t : ResultVar} {v u x : Value} (h : fn.results = #[r, s, t]) (h1 : RVal P r a w v) (h2 : RVal P s a w u) (h3 : RVal P t a w x) : (results fn a.tmps).run P w = .ok (.tuple #[v, u, x]) w := by
  have e1 := rval_run h1
  have e2 := rval_run h2
  have e3 := rval_run h3
  simp only [results_rsem, h, List.mapM_toArray, List.mapM_cons, List.mapM_nil, map_eq_pure_bind, Sem.run_bind, e1, e2, e3, Result.andThen_ok, Sem.run_pure]
  rfl
theorem fl_enter2 {f : FuncId} {c : Code} {args : Array Value} {n : Nat} {R : Ending → World → Prop} (hf : P.funcs[f]? = some fn) (hb : fn.body = some c) (hn : fn.ntmps = n) (ha : args.size ≤ n)
    (h : ∀ (a : Act) (Q : Exit → Act → World → Prop), a.defers = [] → a.tmps.size = n → (∀ t v, args[t]? = some v → a.eval (.tmp t) = v) →
      (∀ a' w' v, a'.defers = [] → (results fn a'.tmps).run P w' = .ok v w' → R (.returned v) w' → Q .ret a' w') → (∀ a' w' v, a'.defers = [] → (results fn a'.tmps).run P w' = .ok v w' → R (.returned v) w' → Q .normal a' w') → c.wp P Q a w) : Calls P f args w R := by
  refine calls_of_wp hf hb (h _ _ rfl (by simp [hn]; omega) ?_ ?_ ?_)
  · intro t v hv
    show (args ++ Array.replicate (fn.ntmps - args.size) undef).getD t undef = v
    have hlt : t < args.size := (Array.getElem?_eq_some_iff.1 hv).1
    rw [Array.getD_eq_getD_getElem?, Array.getElem?_append_left hlt, hv]
    rfl
  · intro a' w' v hd hr hR
    exact ⟨hd, v, hr, hR⟩
  · intro a' w' v hd hr hR
    exact ⟨hd, v, hr, hR⟩
theorem agg2 {a b a' b' : Value} (h1 : a = a') (h2 : b = b') : Value.agg #[a, b] = .agg #[a', b'] := by rw [h1, h2]
theorem agg3 {a b c a' b' c' : Value} (h1 : a = a') (h2 : b = b') (h3 : c = c') : Value.agg #[a, b, c] = .agg #[a', b', c'] := by rw [h1, h2, h3]
theorem agg4 {a b c d a' b' c' d' : Value} (h1 : a = a') (h2 : b = b') (h3 : c = c') (h4 : d = d') : Value.agg #[a, b, c, d] = .agg #[a', b', c', d'] := by rw [h1, h2, h3, h4]
end
end Go.Proofs.Ytefhfbefgeadaaa
