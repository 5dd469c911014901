import Derived.Test.YtnmkonlfnpcoiaaRop
namespace Go.Proofs.Ytnmkonlfnpcoiaa
open Go.RowKit
structure Ex {α : Type} (R : Rep α) (β : Type) where
  f : β → α → List Value
  q : β → World → (Nat → Prop) → α → Prop
  iff : ∀ {w : World} {S : Nat → Prop} {cs : List Value} {x : α}, R.ok w S cs x ↔ ∃ y, cs = f y x ∧ q y w S x
  loc : ∀ {w w' : World} {S S' : Nat → Prop} {y : β} {x : α}, (∀ b, S b → S' b ∧ w'.heap[b]? = w.heap[b]?) → q y w S x → q y w' S' x
def Ex.fl {α : Type} (F : En α) : Ex (Rep.fl F) Unit := ⟨fun _ x => F.f x, fun _ _ _ _ => True, ⟨fun h => ⟨(), h, trivial⟩, fun ⟨_, h, _⟩ => h⟩, fun _ h => h⟩
def Ex.sl {α : Type} (R : Rep α) : Ex (Rep.sl R) (Option Addr × Nat) :=
  ⟨fun y l => [.slice y.1 l.length y.2], fun y w S l => l.length ≤ y.2 ∧ RdS w S R y.1 l,
    ⟨fun ⟨A, c, h1, h2, h3⟩ => ⟨(A, c), h1, h2, h3⟩, fun ⟨y, h1, h2, h3⟩ => ⟨y.1, y.2, h1, h2, h3⟩⟩, fun hS h => ⟨h.1, h.2.loc hS⟩⟩
def Ex.pr {α β γ δ : Type} {A : Rep α} {B : Rep γ} (a : Ex A β) (b : Ex B δ) : Ex (Rep.pr A B) (β × δ) :=
  ⟨fun y x => a.f y.1 x.1 ++ b.f y.2 x.2, fun y w S x => a.q y.1 w S x.1 ∧ b.q y.2 w S x.2,
    ⟨fun ⟨h1, h2⟩ => by
      obtain ⟨y1, e1, q1⟩ := a.iff.1 h1
      obtain ⟨y2, e2, q2⟩ := b.iff.1 h2
      exact ⟨(y1, y2), by rw [← e1, ← e2, List.take_append_drop], q1, q2⟩, fun ⟨y, h, q1, q2⟩ => by
      have h1 := a.iff.2 ⟨y.1, rfl, q1⟩
      have h2 := b.iff.2 ⟨y.2, rfl, q2⟩
      have hl := A.len h1
      subst h
      exact ⟨by rw [← hl, List.take_left]; exact h1, by rw [← hl, List.drop_left]; exact h2⟩⟩,
    fun hS h => ⟨a.loc hS h.1, b.loc hS h.2⟩⟩
section
variable {P : Program} {α β : Type} {R : Rep α} {T : List Nat} {own own' : Own} {a : Act} {w w' : World} {d lab lab2 : Nat} {L L2 L3 : List Nat} {x y : Operand} {t ty e : TypeId} {pos : String} {after : Array Edge} {guard : Option (Nat × Bool)} {A : Option Addr} {c : Nat} {l l' : List α}
theorem Ex.evo (X : Ex R β) {y : β} {v : α} (hl : hits T L = false) (he : Evo T own own' w w') (h : X.q y w (At own L w) v) : X.q y w' (At own' L w') v := X.loc (fun _ hb => At.evo hl he hb) h
def Fct.nest (X : Ex R β) (L : List Nat) (t : Nat) (V : β → Value) (v : α) : Fct := Fct.mems L t V (fun y own w => X.q y w (At own L w) v) X.evo
theorem or_loadN (X : Ex R β) {i : Int} {v : α} {V : β → Value} {p : Addr} (off n : Nat) (hT : TAgg P t n) (hx : a.eval x = .pointer (some p)) (hp : p = ((adr A).add (i.toNat * R.s)).add off) (h : RdO own L w R A c l) (hi : ix l i = some v)
    (hV : ∀ y, V y = .agg (((X.f y v).drop off).take n).toArray) (hn : ∀ y, (((X.f y v).drop off).take n).length = n) :
    OpR P ⟨some d, .load t x, ty, pos, after, guard⟩ a w (Post T own a w (Fct.nest X L d V v) (some d)) := by
  obtain ⟨cs, hok, hcell, _⟩ := h.at_ hi
  obtain ⟨y, rfl, hq⟩ := X.iff.1 hok
  subst hp
  have hc := hcell.part off (l' := ((X.f y v).drop off).take n) (by rw [hn])
  unfold OpR Oper.wp
  have hr : (execOp a.eval ⟨some d, .load t x, ty, pos, after, guard⟩).run P w = .ok (.value (V y)) w := by
    simp only [execOp, hx]; simp [Sem.run_bind, run_loadAgg hT hc (hn y), hV]
  rw [hr]
  exact ⟨_, rfl, own, Evo.refl _ _ _, fun a' ha => ⟨y, ha.1 d rfl, hq⟩⟩
theorem or_loadN1 (X : Ex R β) {i : Int} {v : α} {V : β → Value} {p : Addr} (off : Nat) (hT : TOne P t) (hx : a.eval x = .pointer (some p)) (hp : p = ((adr A).add (i.toNat * R.s)).add off) (h : RdO own L w R A c l) (hi : ix l i = some v)
    (hV : ∀ y, (X.f y v)[off]? = some (V y)) :
    OpR P ⟨some d, .load t x, ty, pos, after, guard⟩ a w (Post T own a w (Fct.nest X L d V v) (some d)) := by
  obtain ⟨cs, hok, hcell, _⟩ := h.at_ hi
  obtain ⟨y, rfl, hq⟩ := X.iff.1 hok
  subst hp
  have hc := hcell.one (hV y)
  unfold OpR Oper.wp
  have hr : (execOp a.eval ⟨some d, .load t x, ty, pos, after, guard⟩).run P w = .ok (.value (V y)) w := by
    simp only [execOp, hx]; simp [Sem.run_bind, run_loadOne hT hc]
  rw [hr]
  exact ⟨_, rfl, own, Evo.refl _ _ _, fun a' ha => ⟨y, ha.1 d rfl, hq⟩⟩
theorem or_litN {cs : Array Value} {n : Nat} {o : Oper} (lk0 : List (Nat × Value)) (hd : o.dst = some d) (hc : covers lk0 o = true) (hl : AllE a lk0)
    (h : (execOp (lk lk0) o).run P w = .ok (.value (.slice (some ⟨w.heap.size, 0, none⟩) n n)) (w.alloc (.cells cs e))) (hn : l.length = n) (hm : n ≤ maxLen) (hrep : RepL R w (At own L w) cs.toList l) (hT : hits T L = false) :
    OpR P o a w (Post T own a w (Fct.row lab L d e R l) o.dst) := by
  subst hn
  have hlen := hrep.len
  unfold OpR Oper.wp
  rw [exec_lk hc hl, h]
  refine ⟨_, rfl, mvOwn w T lab own, Evo.ofAlloc T lab own w _, fun a' ha => ⟨(some ⟨w.heap.size, 0, none⟩, l.length), ha.1 d hd, .inr ⟨w.heap.size, cs, rfl, mvOwn_new (Nat.le_refl _), Blk.new w e cs, Nat.le_refl _, hm, by rw [← Array.length_toList]; exact hlen, ?_⟩⟩⟩
  rw [List.take_of_length_le (by rw [hlen]; exact Nat.le_refl _)]
  refine hrep.loc fun b hb => ?_
  have h1 := At.evo (T := T) hT (Evo.ofAlloc T lab own w (.cells cs e)) hb
  exact ⟨⟨h1.1, fun e' => by have := hb.2; omega⟩, h1.2⟩
theorem or_conv {s u : TypeId} {k k2 : IntKind} {n r : Int} (hx : a.eval x = .int k n) (hs : P.underlying s = some (.int k)) (hu : P.underlying u = some (.int k2)) (hr : k2.wrap n = r) :
    OpR P ⟨some d, .convert s u x, ty, pos, after, guard⟩ a w (Post T own a w (Fct.val d (.int k2 r)) (some d)) :=
  or_val (o := ⟨some d, .convert s u x, ty, pos, after, guard⟩) rfl (by
    subst hr
    simp only [execOp, hx]
    simp [Sem.run_bind, convert, run_underlying hs, run_underlying hu, Conv.intToInt])
end
end Go.Proofs.Ytnmkonlfnpcoiaa
