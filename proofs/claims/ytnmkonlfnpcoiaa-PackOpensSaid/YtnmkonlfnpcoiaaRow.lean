import Derived.Test.YtnmkonlfnpcoiaaOp
import Derived.Maps.AppendAt
import Derived.Laws.Slices
namespace Go.Proofs.Ytnmkonlfnpcoiaa
open Go.RowKit
structure En (α : Type) where
  s : Nat
  f : α → List Value
  pos : 0 < s
  len : ∀ x, (f x).length = s
  one : ∀ x, ∀ u ∈ f x, u.oneCell' = true
def En.int (k : IntKind) : En Int := ⟨1, fun n => [.int k n], Nat.one_pos, fun _ => rfl, fun x u hu => by simp at hu; subst hu; rfl⟩
def En.bool : En Bool := ⟨1, fun b => [.bool b], Nat.one_pos, fun _ => rfl, fun x u hu => by simp at hu; subst hu; rfl⟩
def En.str : En ByteArray := ⟨1, fun b => [.string b], Nat.one_pos, fun _ => rfl, fun x u hu => by simp at hu; subst hu; rfl⟩
def En.pr {α β : Type} (a : En α) (b : En β) : En (α × β) := ⟨a.s + b.s, fun x => a.f x.1 ++ b.f x.2, Nat.lt_of_lt_of_le a.pos (Nat.le_add_right _ _), fun x => by rw [List.length_append, a.len, b.len],
  fun x u hu => by rw [List.mem_append] at hu; exact hu.elim (a.one _ u) (b.one _ u)⟩
structure Rep (α : Type) where
  s : Nat
  pos : 0 < s
  ok : World → (Nat → Prop) → List Value → α → Prop
  len : ∀ {w : World} {S : Nat → Prop} {cs : List Value} {x : α}, ok w S cs x → cs.length = s
  one : ∀ {w : World} {S : Nat → Prop} {cs : List Value} {x : α}, ok w S cs x → ∀ u ∈ cs, u.oneCell' = true
  loc : ∀ {w w' : World} {S S' : Nat → Prop} {cs : List Value} {x : α}, (∀ b, S b → S' b ∧ w'.heap[b]? = w.heap[b]?) → ok w S cs x → ok w' S' cs x
def Rep.fl {α : Type} (F : En α) : Rep α := ⟨F.s, F.pos, fun _ _ cs x => cs = F.f x, fun h => by subst h; exact F.len _, fun h => by subst h; exact F.one _, fun _ h => h⟩
def Rep.Flat {α : Type} (R : Rep α) : Prop := ∀ (w w' : World) (S S' : Nat → Prop) (cs : List Value) (x : α), R.ok w S cs x → R.ok w' S' cs x
theorem Rep.fl_flat {α : Type} (F : En α) : (Rep.fl F).Flat := fun _ _ _ _ _ _ h => h
def RepL {α : Type} (R : Rep α) (w : World) (S : Nat → Prop) : List Value → List α → Prop
  | cs, [] => cs = []
  | cs, x :: l => R.ok w S (cs.take R.s) x ∧ RepL R w S (cs.drop R.s) l
section
variable {α : Type} {R : Rep α} {w w' : World} {S S' : Nat → Prop} {cs cs' : List Value} {l l' : List α}
theorem RepL.len : ∀ {cs : List Value} {l : List α}, RepL R w S cs l → cs.length = l.length * R.s
  | cs, [], h => by simp [RepL] at h; simp [h]
  | cs, x :: l, h => by
    have h1 := R.len h.1
    have h2 := RepL.len h.2
    rw [List.length_take] at h1
    rw [List.length_drop] at h2
    rw [List.length_cons, Nat.add_mul, Nat.one_mul]
    omega
theorem RepL.append : ∀ {cs : List Value} {l : List α}, RepL R w S cs l → RepL R w S cs' l' → RepL R w S (cs ++ cs') (l ++ l')
  | cs, [], h, h' => by simp [RepL] at h; subst h; simpa using h'
  | cs, x :: l, h, h' => by
    have h1 := R.len h.1
    rw [List.length_take] at h1
    refine ⟨?_, ?_⟩
    · rw [List.take_append_of_le_length (by omega)]; exact h.1
    · rw [List.drop_append_of_le_length (by omega)]; exact RepL.append h.2 h'
theorem RepL.drop_ : ∀ {cs : List Value} {l : List α} (k : Nat), RepL R w S cs l → RepL R w S (cs.drop (k * R.s)) (l.drop k)
  | cs, l, 0, h => by simpa using h
  | cs, [], k + 1, h => by simp [RepL] at h ⊢; simp [h]
  | cs, x :: l, k + 1, h => by
    have := RepL.drop_ k h.2
    rw [List.drop_drop] at this
    rw [List.drop_succ_cons, show (k + 1) * R.s = R.s + k * R.s from by rw [Nat.add_mul, Nat.one_mul, Nat.add_comm]]
    exact this
theorem RepL.take_ : ∀ {cs : List Value} {l : List α} (k : Nat), RepL R w S cs l → RepL R w S (cs.take (k * R.s)) (l.take k)
  | cs, l, 0, h => by simp [RepL]
  | cs, [], k + 1, h => by simp [RepL] at h ⊢; simp [h]
  | cs, x :: l, k + 1, h => by
    have h2 := RepL.take_ k h.2
    have e : (k + 1) * R.s = R.s + k * R.s := by rw [Nat.add_mul, Nat.one_mul, Nat.add_comm]
    rw [List.take_succ_cons, e]
    refine ⟨?_, ?_⟩
    · rw [List.take_take, Nat.min_eq_left (Nat.le_add_right _ _)]; exact h.1
    · rw [List.drop_take, Nat.add_sub_cancel_left]; exact h2
theorem RepL.get_ : ∀ {cs : List Value} {l : List α} {k : Nat} {x : α}, RepL R w S cs l → l[k]? = some x → R.ok w S ((cs.drop (k * R.s)).take R.s) x
  | cs, [], k, x, h, hx => by simp at hx
  | cs, y :: l, 0, x, h, hx => by simp at hx; subst hx; simpa using h.1
  | cs, y :: l, k + 1, x, h, hx => by
    have := RepL.get_ h.2 (k := k) (x := x) (by simpa using hx)
    rw [List.drop_drop] at this
    rw [show (k + 1) * R.s = R.s + k * R.s from by rw [Nat.add_mul, Nat.one_mul, Nat.add_comm]]
    exact this
theorem RepL.loc (hS : ∀ b, S b → S' b ∧ w'.heap[b]? = w.heap[b]?) : ∀ {cs : List Value} {l : List α}, RepL R w S cs l → RepL R w' S' cs l
  | cs, [], h => h
  | cs, x :: l, h => ⟨R.loc hS h.1, RepL.loc hS h.2⟩
theorem RepL.flat (hR : R.Flat) (w' : World) (S' : Nat → Prop) : ∀ {cs : List Value} {l : List α}, RepL R w S cs l → RepL R w' S' cs l
  | cs, [], h => h
  | cs, x :: l, h => ⟨hR _ _ _ _ _ _ h.1, RepL.flat hR w' S' h.2⟩
theorem RepL.one : ∀ {cs : List Value} {l : List α}, RepL R w S cs l → ∀ u ∈ cs, u.oneCell' = true
  | cs, [], h, u, hu => by simp [RepL] at h; subst h; simp at hu
  | cs, x :: l, h, u, hu => by
    rw [← List.take_append_drop R.s cs, List.mem_append] at hu
    exact hu.elim (R.one h.1 u) (RepL.one h.2 u)
theorem RepL.one_ {cs : List Value} {x : α} (h : R.ok w S cs x) : RepL R w S cs [x] := by
  have := R.len h
  refine ⟨by rw [List.take_of_length_le (by omega)]; exact h, ?_⟩
  show cs.drop R.s = []
  exact List.drop_eq_nil_of_le (by omega)
theorem RepL.set_ {cs c1 : List Value} {l : List α} {k : Nat} {x : α} (h : RepL R w S cs l) (hk : k < l.length) (hx : R.ok w S c1 x) :
    RepL R w S (cs.take (k * R.s) ++ c1 ++ cs.drop ((k + 1) * R.s)) (l.set k x) := by
  have e : l.set k x = l.take k ++ [x] ++ l.drop (k + 1) := by rw [List.set_eq_take_append_cons_drop, if_pos hk]; simp
  rw [e]
  exact ((h.take_ k).append (RepL.one_ hx)).append (h.drop_ (k + 1))
def enc {α : Type} (F : En α) : List α → List Value
  | [] => []
  | x :: l => F.f x ++ enc F l
theorem RepL.enc {α : Type} (F : En α) (w : World) (S : Nat → Prop) : ∀ l : List α, RepL (Rep.fl F) w S (enc F l) l
  | [] => rfl
  | x :: l => by
    have hl := F.len x
    refine ⟨?_, ?_⟩
    · show ((F.f x ++ Go.Proofs.Ytnmkonlfnpcoiaa.enc F l).take F.s) = F.f x
      rw [List.take_append_of_le_length (by omega), List.take_of_length_le (by omega)]
    · show RepL (Rep.fl F) w S ((F.f x ++ Go.Proofs.Ytnmkonlfnpcoiaa.enc F l).drop F.s) l
      rw [← hl, List.drop_left]
      exact RepL.enc F w S l
end
def At (own : Own) (L : List Nat) (w : World) : Nat → Prop := fun b => own b ∈ L ∧ b < w.heap.size
theorem At.evo {T L : List Nat} {own own' : Own} {w w' : World} (hl : hits T L = false) (he : Evo T own own' w w') {b : Nat} (h : At own L w b) : At own' L w' b ∧ w'.heap[b]? = w.heap[b]? := by
  have hk := he.keep b h.2 (fun hm => (not_hit hl h.1 hm).elim)
  exact ⟨⟨by rw [hk.1]; exact h.1, Nat.lt_of_lt_of_le h.2 he.size⟩, hk.2⟩
theorem hits_cons {T L : List Nat} {lab : Nat} (h : hits T (lab :: L) = false) : lab ∉ T ∧ hits T L = false := by
  refine ⟨not_hit h (by simp), ?_⟩
  cases h' : hits T L with
  | false => rfl
  | true =>
    obtain ⟨t, ht, hl⟩ := List.any_eq_true.1 h'
    obtain ⟨x, hx, hb⟩ := List.any_eq_true.1 hl
    have : hits T (lab :: L) = true := List.any_eq_true.2 ⟨t, ht, List.any_eq_true.2 ⟨x, List.mem_cons_of_mem _ hx, hb⟩⟩
    rw [h] at this; cases this
section
variable {α : Type}
def RdS (w : World) (S : Nat → Prop) (R : Rep α) (A : Option Addr) (l : List α) : Prop :=
  ∃ cs, RepL R w S cs l ∧ (0 < l.length → ∃ b off, A = some ⟨b, off, none⟩ ∧ S b ∧ ∀ j u, cs[j]? = some u → w.cell? ⟨b, off + j, none⟩ = some u)
def RdO (own : Own) (L : List Nat) (w : World) (R : Rep α) (A : Option Addr) (c : Nat) (l : List α) : Prop := l.length ≤ c ∧ RdS w (At own L w) R A l
def RwO (own : Own) (lab : Nat) (L : List Nat) (w : World) (e : TypeId) (R : Rep α) (A : Option Addr) (c : Nat) (l : List α) : Prop :=
  (l = [] ∧ c = 0) ∨ ∃ g cur, A = some ⟨g, 0, none⟩ ∧ own g = lab ∧ Blk w g e cur ∧ l.length ≤ c ∧ c ≤ maxLen ∧ cur.size = c * R.s ∧ RepL R w (fun b => At own L w b ∧ b ≠ g) (cur.toList.take (l.length * R.s)) l
variable {R : Rep α} {w w' : World} {S S' : Nat → Prop} {A : Option Addr} {l l' : List α} {own own' : Own} {lab lab' c : Nat} {T L L' : List Nat} {e : TypeId}
theorem RdS.loc (hS : ∀ b, S b → S' b ∧ w'.heap[b]? = w.heap[b]?) (h : RdS w S R A l) : RdS w' S' R A l := by
  obtain ⟨cs, h1, h2⟩ := h
  refine ⟨cs, h1.loc hS, fun hn => ?_⟩
  obtain ⟨b, off, e, hb, hc⟩ := h2 hn
  exact ⟨b, off, e, (hS b hb).1, fun j u hu => (World.cell?_of_block (hS b hb).2).trans (hc j u hu)⟩
theorem RdO.evo (hl : hits T L = false) (he : Evo T own own' w w') (h : RdO own L w R A c l) : RdO own' L w' R A c l := ⟨h.1, h.2.loc fun _ hb => At.evo hl he hb⟩
theorem RdO.sub (hS : ∀ b, At own L w b → At own' L' w b) (h : RdO own L w R A c l) : RdO own' L' w R A c l := ⟨h.1, h.2.loc fun b hb => ⟨hS b hb, rfl⟩⟩
theorem RdO.zero (h : RdO own L w R A c l) : RdO (fun _ => 0) [0] w R A c l := h.sub fun _ hb => ⟨by simp, hb.2⟩
theorem RdO.nil_ : RdO own L w R A c [] := ⟨Nat.zero_le _, [], rfl, fun h => (by simp at h)⟩
theorem RwO.evo (hl : hits T (lab :: L) = false) (he : Evo T own own' w w') (h : RwO own lab L w e R A c l) : RwO own' lab L w' e R A c l := by
  rcases h with h | ⟨g, cur, h1, h2, h3, h4, h5, h6, h7⟩
  · exact .inl h
  · have hk := BlkO.evo (hits_cons hl).1 he ⟨h2, h3⟩
    exact .inr ⟨g, cur, h1, hk.1, hk.2, h4, h5, h6, h7.loc fun _ hb => ⟨⟨(At.evo (hits_cons hl).2 he hb.1).1, hb.2⟩, (At.evo (hits_cons hl).2 he hb.1).2⟩⟩
theorem re_ (he : Evo T own own' w w') (h : RwO own lab L w e R A c l) (hl : hits T (lab :: L) = false := by exact rfl) : RwO own' lab L w' e R A c l := RwO.evo hl he h
theorem RwO.nil_ : RwO own lab L w e R none 0 [] := .inl ⟨rfl, rfl⟩
theorem RwO.lec (h : RwO own lab L w e R A c l) : l.length ≤ c := by
  rcases h with ⟨rfl, rfl⟩ | ⟨g, cur, _, _, _, h, _⟩
  · simp
  · exact h
theorem RwO.rd (h : RwO own lab L w e R A c l) : RdO own (lab :: L) w R A c l := by
  refine ⟨h.lec, ?_⟩
  rcases h with ⟨rfl, rfl⟩ | ⟨g, cur, h1, h2, h3, h4, h5, h6, h7⟩
  · exact ⟨[], rfl, fun h => by simp at h⟩
  · refine ⟨_, h7.loc (S' := At own (lab :: L) w) (fun _ hb => ⟨⟨List.mem_cons_of_mem _ hb.1.1, hb.1.2⟩, rfl⟩), fun _ => ⟨g, 0, h1, ⟨by rw [h2]; simp, h3.lt⟩, fun j u hu => ?_⟩⟩
    rw [Nat.zero_add, h3.cell j]
    rw [List.getElem?_take] at hu
    split at hu
    · simpa using hu
    · cases hu
theorem RdO.at_ {i : Int} {x : α} (h : RdO own L w R A c l) (hi : ix l i = some x) : ∃ cs, R.ok w (At own L w) cs x ∧ CellsAt w ((adr A).add (i.toNat * R.s)) cs ∧ A = some (adr A) := by
  obtain ⟨h0, hlt, hx⟩ := ix_some hi
  obtain ⟨cs, h1, h2⟩ := h.2
  obtain ⟨b, off, rfl, hb, hc⟩ := h2 (by omega)
  refine ⟨_, h1.get_ hx, fun j v hv => ?_, rfl⟩
  rw [add_add]
  have e : (adr (some ⟨b, off, none⟩)).add (i.toNat * R.s + j) = ⟨b, off + (i.toNat * R.s + j), none⟩ := by
    show (⟨b, off, none⟩ : Addr).add _ = _
    unfold Addr.add; split <;> simp_all
  rw [e]
  refine hc _ v ?_
  rw [List.getElem?_take] at hv
  split at hv
  · rw [List.getElem?_drop] at hv; exact hv
  · cases hv
theorem RdO.cells {F : En α} {i : Int} {x : α} (h : RdO own L w (Rep.fl F) A c l) (hi : ix l i = some x) : CellsAt w ((adr A).add (i.toNat * F.s)) (F.f x) := by
  obtain ⟨cs, h1, h2, _⟩ := h.at_ hi
  have h1 : cs = F.f x := h1
  rw [← h1]; exact h2
theorem RdO.some_ {i : Int} {x : α} (h : RdO own L w R A c l) (hi : ix l i = some x) : A = some (adr A) := (h.at_ hi).elim fun _ h => h.2.2
theorem RdO.cut_ {lo hi : Int} {m : Nat} (h : RdO own L w R A c l) (hc : cut l lo hi = some l') (hm : hi.toNat ≤ m) : RdO own L w R (if m = lo.toNat then A else A.map (·.add (lo.toNat * R.s))) (m - lo.toNat) l' := by
  obtain ⟨h1, h2, h3, rfl, h5⟩ := cut_some hc
  refine ⟨by rw [h5]; omega, ?_⟩
  obtain ⟨cs, g1, g2⟩ := h.2
  refine ⟨_, (g1.take_ hi.toNat).drop_ lo.toNat, fun hn => ?_⟩
  obtain ⟨b, off, rfl, hb, hcell⟩ := g2 (by rw [h5] at hn; omega)
  rw [if_neg (by rw [h5] at hn; omega)]
  refine ⟨b, off + lo.toNat * R.s, ?_, hb, fun j u hu => ?_⟩
  · by_cases h0 : lo.toNat * R.s = 0
    · simp [Addr.add, h0]
    · simp [Addr.add, h0]
  · rw [Nat.add_assoc]
    refine hcell _ u ?_
    rw [List.getElem?_drop, List.getElem?_take] at hu
    split at hu
    · exact hu
    · cases hu
theorem RwO.take_ {hi : Int} (h : RwO own lab L w e R A c l) (hc : cut l 0 hi = some l') : RwO own lab L w e R A c l' := by
  obtain ⟨h1, h2, h3, rfl, h5⟩ := cut_some hc
  rcases h with ⟨rfl, rfl⟩ | ⟨g, cur, g1, g2, g3, g4, g5, g6, g7⟩
  · exact .inl ⟨by simp, rfl⟩
  · refine .inr ⟨g, cur, g1, g2, g3, ?_, g5, g6, ?_⟩
    · rw [h5]; omega
    · have := g7.take_ hi.toNat
      rw [List.take_take] at this
      simp only [Int.toNat_zero, List.drop_zero]
      have e : ((l.take hi.toNat).length * R.s) = min (hi.toNat * R.s) (l.length * R.s) := by
        rw [List.length_take]
        have : min hi.toNat l.length = hi.toNat := by omega
        rw [this, Nat.min_eq_left (Nat.mul_le_mul_right _ (by omega))]
      rw [e]; exact this
def Rep.pr {α β : Type} (a : Rep α) (b : Rep β) : Rep (α × β) :=
  ⟨a.s + b.s, Nat.lt_of_lt_of_le a.pos (Nat.le_add_right _ _), fun w S cs x => a.ok w S (cs.take a.s) x.1 ∧ b.ok w S (cs.drop a.s) x.2,
    fun h => by
      have h1 := a.len h.1
      have h2 := b.len h.2
      have h3 := a.pos
      rw [List.length_take] at h1
      rw [List.length_drop] at h2
      omega,
    fun {w S cs x} h u hu => by
      rw [← List.take_append_drop a.s cs, List.mem_append] at hu
      exact hu.elim (a.one h.1 u) (b.one h.2 u),
    fun hS h => ⟨a.loc hS h.1, b.loc hS h.2⟩⟩
def Rep.sl {α : Type} (R : Rep α) : Rep (List α) :=
  ⟨1, Nat.one_pos, fun w S cs l => ∃ A c, cs = [.slice A l.length c] ∧ l.length ≤ c ∧ RdS w S R A l,
    fun ⟨_, _, h, _⟩ => by rw [h]; rfl,
    fun ⟨_, _, h, _⟩ u hu => by rw [h] at hu; simp at hu; subst hu; rfl,
    fun hS ⟨A, c, h1, h2, h3⟩ => ⟨A, c, h1, h2, h3.loc hS⟩⟩
def Fct.row (lab : Nat) (L : List Nat) (t : Nat) (e : TypeId) (R : Rep α) (l : List α) : Fct := Fct.mems (β := Option Addr × Nat) (lab :: L) t (fun x => .slice x.1 l.length x.2) (fun x own w => RwO own lab L w e R x.1 x.2 l) RwO.evo
def Fct.rowAt (lab : Nat) (L : List Nat) (e : TypeId) (R : Rep α) (A : Option Addr) (c : Nat) (l : List α) : Fct := Fct.heres (lab :: L) (fun own w => RwO own lab L w e R A c l) RwO.evo
def Fct.view (L : List Nat) (t : Nat) (R : Rep α) (l : List α) : Fct := Fct.mems (β := Option Addr × Nat) L t (fun x => .slice x.1 l.length x.2) (fun x own w => RdO own L w R x.1 x.2 l) RdO.evo
variable {m m' : Nat → Nat}
theorem RwO.back_ (h : RwO own' lab L w' e R A c l) (h0 : lab ≠ 0) (hL : R.Flat ∨ 0 ∉ L) : RwO (back own own' w m') (m' lab) (L.map m') w' e R A c l := by
  rcases h with h | ⟨g, cur, h1, h2, h3, h4, h5, h6, h7⟩
  · exact .inl h
  · refine .inr ⟨g, cur, h1, by rw [back_new (by rw [h2]; exact h0), h2], h3, h4, h5, h6, ?_⟩
    rcases hL with hL | hL
    · exact h7.flat hL _ _
    · refine h7.loc fun b hb => ⟨⟨⟨?_, hb.1.2⟩, hb.2⟩, rfl⟩
      rw [back_new (fun h => hL (by rw [← h]; exact hb.1.1))]
      exact List.mem_map_of_mem hb.1.1
theorem RdO.back_ (h : RdO own' L w' R A c l) (hL : 0 ∉ L) : RdO (back own own' w m') (L.map m') w' R A c l :=
  h.sub fun b hb => ⟨by rw [back_new (fun h => hL (by rw [← h]; exact hb.1))]; exact List.mem_map_of_mem hb.1, hb.2⟩
theorem RwO.forth_ (h : RwO own lab L w e R A c l) : RwO (forth own m) (m lab) (L.map m) w e R A c l := by
  rcases h with h | ⟨g, cur, h1, h2, h3, h4, h5, h6, h7⟩
  · exact .inl h
  · exact .inr ⟨g, cur, h1, by show m (own g) = m lab; rw [h2], h3, h4, h5, h6, h7.loc fun b hb => ⟨⟨⟨List.mem_map_of_mem hb.1.1, hb.1.2⟩, hb.2⟩, rfl⟩⟩
theorem RdO.forth_ (h : RdO own L w R A c l) : RdO (forth own m) (L.map m) w R A c l :=
  h.sub fun b hb => ⟨List.mem_map_of_mem hb.1, hb.2⟩
theorem RwO.mv {lab2 : Nat} (hT : lab ∈ T) (h0 : lab ≠ 0) (hL : R.Flat ∨ hits T L = false) (h : RwO own lab L w e R A c l) : RwO (mvOwn w T lab2 own) lab2 L w e R A c l := by
  rcases h with h | ⟨g, cur, h1, h2, h3, h4, h5, h6, h7⟩
  · exact .inl h
  · refine .inr ⟨g, cur, h1, mvOwn_struck (by rw [h2]; exact hT) (by rw [h2]; exact h0), h3, h4, h5, h6, ?_⟩
    rcases hL with hL | hL
    · exact h7.flat hL _ _
    · exact h7.loc fun b hb => ⟨⟨⟨(by show mvOwn w T lab2 own b ∈ L; rw [mvOwn_same hb.1.2 (not_hit hL hb.1.1)]; exact hb.1.1), hb.1.2⟩, hb.2⟩, rfl⟩
def look (m : List (Nat × Nat)) (x : Nat) : Nat := match m with
  | [] => x
  | p :: r => if Nat.beq p.1 x then p.2 else look r x
def rl (m : List (Nat × Nat)) (own : Own) : Own := fun b => look m (own b)
variable {mm : List (Nat × Nat)}
theorem BlkO.rl_ {g : Nat} {ty : TypeId} {cs : Array Value} (h : BlkO own lab w g ty cs) : BlkO (rl mm own) (look mm lab) w g ty cs := ⟨by show look mm (own g) = _; rw [h.1], h.2⟩
theorem RwO.rl_ (h : RwO own lab L w e R A c l) : RwO (rl mm own) (look mm lab) (L.map (look mm)) w e R A c l := h.forth_ (m := look mm)
theorem RdO.rl_ (h : RdO own L w R A c l) : RdO (rl mm own) (L.map (look mm)) w R A c l := h.forth_ (m := look mm)
theorem RwO.more (h : RwO own lab L w e R A c l) (hL : ∀ x ∈ L, x ∈ L') : RwO own lab L' w e R A c l := by
  rcases h with h | ⟨g, cur, h1, h2, h3, h4, h5, h6, h7⟩
  · exact .inl h
  · exact .inr ⟨g, cur, h1, h2, h3, h4, h5, h6, h7.loc fun b hb => ⟨⟨⟨hL _ hb.1.1, hb.1.2⟩, hb.2⟩, rfl⟩⟩
theorem RdO.more (h : RdO own L w R A c l) (hL : ∀ x ∈ L, x ∈ L') : RdO own L' w R A c l := h.sub fun _ hb => ⟨hL _ hb.1, hb.2⟩
theorem look_same {x : Nat} (hm : ∀ p ∈ mm, p.1 ≠ x) : look mm x = x := by
  induction mm with
  | nil => rfl
  | cons p r ih =>
    have hne : Nat.beq p.1 x = false := by
      cases h : Nat.beq p.1 x with
      | false => rfl
      | true => exact (hm p (by simp) (Nat.eq_of_beq_eq_true h)).elim
    simp only [look, hne]
    exact ih fun q hq => hm q (by simp [hq])
theorem Evo.rl_ {K : List Nat} {ownE : Own} {wE : World} {j : Nat} (h : Evo K ownE own wE w) (hl : ∀ b, ownE b ≤ j) (hm : (mm.all fun p => Nat.blt j p.1 || (K.any (Nat.beq p.1) && !Nat.beq p.1 0)) = true) : Evo K ownE (rl mm own) wE w :=
  ⟨h.os, h.tape, h.output, h.size, fun b hb hK => by
    have h1 := h.keep b hb hK
    refine ⟨?_, h1.2⟩
    show look mm (own b) = _
    rw [h1.1]
    refine look_same fun p hp e => ?_
    have h2 := List.all_eq_true.1 hm p hp
    rw [Bool.or_eq_true] at h2
    rcases h2 with h2 | h2
    · have := Nat.le_of_ble_eq_true h2
      have := hl b
      omega
    · rw [Bool.and_eq_true] at h2
      have h3 : p.1 ∈ K := mem_of h2.1
      have h4 := hK (by rw [← e]; exact h3)
      rw [e, h4] at h2
      cases h2.2⟩
end
end Go.Proofs.Ytnmkonlfnpcoiaa
