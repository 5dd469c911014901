import Derived.Test.YtnmkonlfnpcoiaaBst
import Derived.Laws.IdiomStrings
import Derived.Laws.AppendOwn
namespace Go.Proofs.Ytnmkonlfnpcoiaa
open Go.RowKit
structure Sj (S : Type) where
  J : S → (Nat → Prop) → World → Prop
  st : ∀ {s : S} {M M' : Nat → Prop} {w w' : World}, J s M w → w.heap.size ≤ w'.heap.size → (∀ b, b < w.heap.size → M b → M' b ∧ w'.heap[b]? = w.heap[b]?) → J s M' w'
def SoO {S : Type} (J : Sj S) (own : Own) (lab : Nat) (w : World) (s : S) : Prop := J.J s (fun b => own b = lab) w
section
variable {S : Type} {J : Sj S} {own own' : Own} {lab : Nat} {w w' : World} {s : S} {T : List Nat} {m m' : Nat → Nat}
theorem SoO.evo (hl : lab ∉ T) (he : Evo T own own' w w') (h : SoO J own lab w s) : SoO J own' lab w' s :=
  J.st h he.size fun b hb (hm : own b = lab) => by
    have hk := he.keep b hb (fun ht => by rw [hm] at ht; exact (hl ht).elim)
    exact ⟨hk.1.trans hm, hk.2⟩
theorem SoO.forth_ (h : SoO J own lab w s) : SoO J (forth own m) (m lab) w s :=
  J.st h (Nat.le_refl _) fun b _ (hm : own b = lab) => ⟨(congrArg m hm : m (own b) = m lab), rfl⟩
theorem SoO.rl_ {mm : List (Nat × Nat)} (h : SoO J own lab w s) : SoO J (rl mm own) (look mm lab) w s :=
  J.st h (Nat.le_refl _) fun b _ (hm : own b = lab) => ⟨(congrArg (look mm) hm : look mm (own b) = _), rfl⟩
theorem SoO.back_ (h : SoO J own' lab w' s) (h0 : lab ≠ 0) : SoO J (back own own' w m') (m' lab) w' s :=
  J.st h (Nat.le_refl _) fun b _ (hm : own' b = lab) => ⟨by show back own own' w m' b = m' lab; rw [back_new (by rw [hm]; exact h0), hm], rfl⟩
def Fct.so (J : Sj S) (lab d : Nat) (s : S) : Fct :=
  ⟨[lab], [d], fun own a w => a.eval (.tmp d) = .tuple #[] ∧ SoO J own lab w s, fun hk ha he h => ⟨(ha d (by simp)).trans h.1, SoO.evo (not_hit hk (by simp)) he h.2⟩⟩
def Fct.soAt (J : Sj S) (lab : Nat) (s : S) : Fct := Fct.here lab (fun own w => SoO J own lab w s) SoO.evo
end
theorem post_valA {T : List Nat} {own ow : Own} {w : World} {V : Value} {d : Nat} {a : Act} : ∀ (e : Ending) (w' : World), (∃ own' : Own, e = .returned V ∧ Evo [] ow own' w w') → ∃ v, e = .returned v ∧ Post T own a w (Fct.val d V) (some d) v w' :=
  fun _ _ ⟨_, he, hb⟩ => ⟨V, he, mvOwn _ T 0 own, Evo.mv T 0 own hb.os hb.tape hb.output hb.size fun b hl _ => (hb.keep b hl (fun h => by cases h)).2, fun _ ha => ha.1 d rfl⟩
def LessS (P : Program) (g : Nat) (ca : Value) {T : Type} (lf : List T → Int → Int → Option Bool) (J : Sj (List T)) : Prop :=
  ∀ (own : Own) (lab : Nat) (w : World) (l : List T) (i j : Int) (r : Bool), SoO J own lab w l → lf l i j = some r →
    Calls P g #[.int .i64 i, .int .i64 j, ca] w fun e w' => ∃ own' : Own, e = .returned (.bool r) ∧ Evo [] (fun _ => 0) own' w w'
def SwapS (P : Program) (g : Nat) (sv th : Value) {T : Type} (J : Sj (List T)) : Prop :=
  ∀ (own : Own) (lab lab2 : Nat) (w : World) (l l' : List T) (i j : Int), SoO J own lab w l → lab ≠ 0 → swO l i j = some l' →
    ∃ (w' : World) (own' : Own), (callFunc g #[.int .i64 i, .int .i64 j, sv, th]).run P w = .ok (.value (.tuple #[])) w' ∧ Evo [lab] own own' w w' ∧ SoO J own' lab2 w' l'
section
variable {P : Program} {T : List Nat} {own : Own} {a : Act} {w : World} {d lab lab2 g : Nat} {x : Operand} {args : Array Operand} {ts : Array TypeId} {ty : TypeId} {pos : String} {after : Array Edge} {guard : Option (Nat × Bool)} {X : Type} {J : Sj (List X)} {l l' : List X} {i j : Int} {sv th : Value}
theorem or_sswap (hx : a.eval x = .func (.func g) #[] #[sv, th]) (he : args.map a.eval = #[.int .i64 i, .int .i64 j]) (hS : SwapS P g sv th J) (h : SoO J own lab w l) (h0 : lab ≠ 0) (hz : swO l i j = some l') (hT : lab ∈ T) :
    OpR P ⟨some d, .call ⟨.value x, args, ts⟩, ty, pos, after, guard⟩ a w (Post T own a w (Fct.so J lab2 d l') (some d)) := by
  obtain ⟨w', own', h1, h2, h3⟩ := hS own lab lab2 w l l' i j h h0 hz
  unfold OpR Oper.wp
  have hr : (execOp a.eval ⟨some d, .call ⟨.value x, args, ts⟩, ty, pos, after, guard⟩).run P w = .ok (.value (.tuple #[])) w' := by
    simp only [execOp, resolve, he, hx, Deferred.ofValue]
    simp [Sem.run_bind, invoke, h1]
  rw [hr]
  exact ⟨_, rfl, own', h2.more (by simpa using hT), fun a' ha => ⟨ha.1 d rfl, h3⟩⟩
end
section
variable {P : Program} {T : List Nat} {own : Own} {a : Act} {w : World} {d lab lab2 g : Nat} {x y : Operand} {t ut ty src dst e : TypeId} {pos : String} {after : Array Edge} {guard : Option (Nat × Bool)} {k : IntKind} {c0 c1 c2 v i q : Int} {f : Fct}
theorem inA_ok {n : Nat} (h : inA n i = some q) : 0 ≤ i ∧ i < n := by
  unfold inA at h
  split at h
  · assumption
  · cases h
theorem or_storeA3 (hT : TSize P t 1) (hx : a.eval x = .pointer (some ((⟨g, 0, none⟩ : Addr).add (i.toNat * 1)))) (hy : a.eval y = .int k v) (hb : BlkO own lab w g ut #[.int k c0, .int k c1, .int k c2]) (hi : inA 3 i = some q) (hg : lab ∈ T) (h0 : lab ≠ 0)
    (hf : ∀ (own' : Own) (a' : Act) (w' : World), (∀ t, a'.eval (.tmp t) = a.eval (.tmp t)) → BlkO own' lab2 w' g ut #[.int k (iA i 0 v c0), .int k (iA i 1 v c1), .int k (iA i 2 v c2)] → f.p own' a' w') :
    OpR P ⟨none, .store t x y, ty, pos, after, guard⟩ a w (Post T own a w f none) := by
  have hr := inA_ok hi
  have e1 : (⟨g, 0, none⟩ : Addr).add (i.toNat * 1) = ⟨g, i.toNat, none⟩ := by simp [Addr.add]; omega
  rw [e1] at hx
  refine or_store1 (i := i.toNat) (lab := lab) (lab2 := lab2) hT hx hy hb (by show i.toNat < 3; omega) rfl hg h0 ?_ hf
  have : i = 0 ∨ i = 1 ∨ i = 2 := by omega
  rcases this with rfl | rfl | rfl <;> rfl
end
end Go.Proofs.Ytnmkonlfnpcoiaa
