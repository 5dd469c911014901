import Derived.Test.YtnmkonlfnpcoiaaBst
import Derived.Laws.IdiomStrings
import Derived.Laws.AppendOwn
namespace Go.Proofs.Ytnmkonlfnpcoiaa
open Go.RowKit
structure Sj (S : Type) where
  J : S → (Nat → Prop) → World → Prop
  st : ∀ {s : S} {M M' : Nat → Prop} {w w' : World}, J s M w → w.heap.size ≤ w'.heap.size → (∀ b, b < w.heap.size → M b → M' b ∧ w'.heap[b]? = w.heap[b]?) → J s M' w'
def SoO {S : Type} (J : Sj S) (own : Own) (lab : Nat) (w : World) (s : S) : Prop := J.J s (fun b => own b = lab) w
section
variable {S : Type} {J : Sj S} {own own' : Own} {lab : Nat} {w w' : World} {s : S} {T : List Nat} {m m' : Nat → Nat}
theorem SoO.evo (hl : lab ∉ T) (he : Evo T own own' w w') (h : SoO J own lab w s) : SoO J own' lab w' s :=
  J.st h he.size fun b hb (hm : own b = lab) => by
    have hk := he.keep b hb (fun ht => by rw [hm] at ht; exact (hl ht).elim)
    exact ⟨hk.1.trans hm, hk.2⟩
theorem SoO.forth_ (h : SoO J own lab w s) : SoO J (forth own m) (m lab) w s :=
  J.st h (Nat.le_refl _) fun b _ (hm : own b = lab) => ⟨(congrArg m hm : m (own b) = m lab), rfl⟩
theorem SoO.rl_ {mm : List (Nat × Nat)} (h : SoO J own lab w s) : SoO J (rl mm own) (look mm lab) w s :=
  J.st h (Nat.le_refl _) fun b _ (hm : own b = lab) => ⟨(congrArg (look mm) hm : look mm (own b) = _), rfl⟩
theorem SoO.back_ (h : SoO J own' lab w' s) (h0 : lab ≠ 0) : SoO J (back own own' w m') (m' lab) w' s :=
  J.st h (Nat.le_refl _) fun b _ (hm : own' b = lab) => ⟨by show back own own' w m' b = m' lab; rw [back_new (by rw [hm]; exact h0), hm], rfl⟩
def Fct.so (J : Sj S) (lab d : Nat) (s : S) : Fct :=
  ⟨[lab], [d], fun own a w => a.eval (.tmp d) = .tuple #[] ∧ SoO J own lab w s, fun hk ha he h => ⟨(ha d (by simp)).trans h.1, SoO.evo (not_hit hk (by simp)) he h.2⟩⟩
def Fct.soAt (J : Sj S) (lab : Nat) (s : S) : Fct := Fct.here lab (fun own w => SoO J own lab w s) SoO.evo
end
theorem post_valA {T : List Nat} {own ow : Own} {w : World} {V : Value} {d : Nat} {a : Act} : ∀ (e : Ending) (w' : World), (∃ own' : Own, e = .returned V ∧ Evo [] ow own' w w') → ∃ v, e = .returned v ∧ Post T own a w (Fct.val d V) (some d) v w' :=
  fun _ _ ⟨_, he, hb⟩ => ⟨V, he, mvOwn _ T 0 own, Evo.mv T 0 own hb.os hb.tape hb.output hb.size fun b hl _ => (hb.keep b hl (fun h => by cases h)).2, fun _ ha => ha.1 d rfl⟩
def LessS (P : Program) (g : Nat) (ca : Value) {T : Type} (lf : List T → Int → Int → Option Bool) (J : Sj (List T)) : Prop :=
  ∀ (own : Own) (lab : Nat) (w : World) (l : List T) (i j : Int) (r : Bool), SoO J own lab w l → lf l i j = some r →
    Calls P g #[.int .i64 i, .int .i64 j, ca] w fun e w' => ∃ own' : Own, e = .returned (.bool r) ∧ Evo [] (fun _ => 0) own' w w'
def SwapS (P : Program) (g : Nat) (sv th : Value) {T : Type} (J : Sj (List T)) : Prop :=
  ∀ (own : Own) (lab lab2 : Nat) (w : World) (l l' : List T) (i j : Int), SoO J own lab w l → lab ≠ 0 → swO l i j = some l' →
    ∃ (w' : World) (own' : Own), (callFunc g #[.int .i64 i, .int .i64 j, sv, th]).run P w = .ok (.value (.tuple #[])) w' ∧ Evo [lab] own own' w w' ∧ SoO J own' lab2 w' l'
section
variable {P : Program} {T : List Nat} {own : Own} {a : Act} {w : World} {d lab lab2 g : Nat} {x : Operand} {args : Array Operand} {ts : Array TypeId} {ty : TypeId} {pos : String} {after : Array Edge} {guard : Option (Nat × Bool)} {X : Type} {J : Sj (List X)} {l l' : List X} {i j : Int} {sv th : Value}
theorem or_sswap (hx : a.eval x = .func (.func g) #[] #[sv, th]) (he : args.map a.eval = #[.int .i64 i, .int .i64 j]) (hS : SwapS P g sv th J) (h : SoO J own lab w l) (h0 : lab ≠ 0) (hz : swO l i j = some l') (hT : lab ∈ T) :
    OpR P ⟨some d, .call ⟨.value x, args, ts⟩, ty, pos, after, guard⟩ a w (Post T own a w (Fct.so J lab2 d l') (some d)) := by
  obtain ⟨w', own', h1, h2, h3⟩ := hS own lab lab2 w l l' i j h h0 hz
  unfold OpR Oper.wp
  have hr : (execOp a.eval ⟨some d, .call ⟨.value x, args, ts⟩, ty, pos, after, guard⟩).run P w = .ok (.value (.tuple #[])) w' := by
    simp only [execOp, resolve, he, hx, Deferred.ofValue]
    simp [Sem.run_bind, invoke, h1]
  rw [hr]
  exact ⟨_, rfl, own', h2.more (by simpa using hT), fun a' ha => ⟨ha.1 d rfl, h3⟩⟩
end
section
variable {P : Program} {T : List Nat} {own : Own} {a : Act} {w : World} {d lab lab2 g : Nat} {x y : Operand} {t ut ty src dst e : TypeId} {pos : String} {after : Array Edge} {guard : Option (Nat × Bool)} {k : IntKind} {c0 c1 c2 v i q : Int} {f : Fct}
theorem sB_len (s : ByteArray) : (sB s).length = s.size := by unfold sB; rw [List.length_map, Array.length_toList]; rfl
theorem enc_int (l : List Int) : enc (En.int k) l = l.map (Value.int k) := by
  induction l with
  | nil => rfl
  | cons x l ih => show [Value.int k x] ++ enc (En.int k) l = _; rw [ih]; rfl
theorem or_convSB (hs : P.underlying src = some .string) (hd : P.underlying dst = some (.slice e)) (he : P.underlying e = some (.int .u8)) {s : ByteArray} (hx : a.eval x = .string s) :
    OpR P ⟨some d, .convert src dst x, ty, pos, after, guard⟩ a w (Post T own a w (Fct.view [lab] d (Rep.fl (En.int .u8)) (sB s)) (some d)) := by
  have hr := run_bytes_of_string (P := P) w src dst e s hs hd he
  have hge := grownCap_ge w s.size 0 e
  generalize grownCap w s.size 0 e = cap at hr hge
  have hr' : (execOp a.eval ⟨some d, .convert src dst x, ty, pos, after, guard⟩).run P w = .ok (.value (.slice (some ⟨w.heap.size, 0, none⟩) s.size cap)) (w.drew.alloc (.cells (bytesRow s cap) e ((bytesRow s cap).size, (bytesRow s cap).size + 1))) := by
    simp only [execOp, hx]
    simp [Sem.run_bind, hr]
  unfold OpR Oper.wp
  rw [hr']
  have hsz : (w.drew.alloc (.cells (bytesRow s cap) e ((bytesRow s cap).size, (bytesRow s cap).size + 1))).heap = w.heap.push (.cells (bytesRow s cap) e ((bytesRow s cap).size, (bytesRow s cap).size + 1)) := rfl
  refine ⟨_, rfl, mvOwn w T lab own, Evo.mv T lab own rfl rfl rfl (by rw [hsz]; simp) (fun b hb _ => by rw [hsz, Array.getElem?_push_lt hb]; simp [hb]), fun a' ha => ⟨(some ⟨w.heap.size, 0, none⟩, cap), ?_, by rw [sB_len]; exact hge, enc (En.int .u8) (sB s), RepL.enc _ _ _ _, fun _ => ⟨w.heap.size, 0, rfl, ⟨?_, ?_⟩, fun j u hu => ?_⟩⟩⟩
  · rw [ha.1 d rfl, sB_len]
  · rw [mvOwn_new (Nat.le_refl _)]; simp
  · rw [hsz]; simp
  · have hc := cell_of_row (w.drew.alloc (.cells (bytesRow s cap) e ((bytesRow s cap).size, (bytesRow s cap).size + 1))) w.heap.size (0 + j) (bytesRow s cap) e ((bytesRow s cap).size, (bytesRow s cap).size + 1) (by rw [hsz]; simp)
    rw [hc, Nat.zero_add]
    rw [enc_int, sB, List.map_map, List.getElem?_map] at hu
    have hj : j < s.data.size := by
      rcases Nat.lt_or_ge j s.data.size with h | h
      · exact h
      · rw [List.getElem?_eq_none (by simpa using h)] at hu; cases hu
    unfold bytesRow
    rw [Array.getElem?_append_left (by simpa using hj), Array.getElem?_map]
    simpa using hu
end
end Go.Proofs.Ytnmkonlfnpcoiaa
