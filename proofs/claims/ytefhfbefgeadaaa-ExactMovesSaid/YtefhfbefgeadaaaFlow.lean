/-
  Rules for the flow of control, by letters. No program in sight.
-/
import Derived.Test.YtefhfbefgeadaaaOp
import Derived.Deep.LoopGhost
import Derived.LoopN
import Derived.Laws.Small
namespace Go.Proofs.Ytefhfbefgeadaaa
open Go.RowKit

/-- The exits that go on outwards: neither the end, nor an exit of block id. -/
def Exit.outw : Exit → Bool
  | .normal => false
  | _ => true
def Exit.passes (id : Nat) : Exit → Bool
  | .normal => false
  | .exit i => !Nat.beq i id
  | _ => true

section
variable {P : Program} {a : Act} {w : World} {Q : Exit → Act → World → Prop} {x y : Code} {id : Nat}
theorem fl_seq (h : ∀ Q' : Exit → Act → World → Prop, (∀ a w, y.wp P Q a w → Q' .normal a w) → (∀ e a w, Exit.outw e = true → Q e a w → Q' e a w) → x.wp P Q' a w) : (Code.seq x y).wp P Q a w :=
  wp_seq (h _ (fun _ _ h => h) (fun e a w he hq => by cases e <;> first | exact hq | cases he))
theorem fl_block (h : ∀ Q' : Exit → Act → World → Prop, (∀ a w, Q .normal a w → Q' .normal a w) → (∀ a w, Q .normal a w → Q' (.exit id) a w) → (∀ e a w, Exit.passes id e = true → Q e a w → Q' e a w) → x.wp P Q' a w) : (Code.block id x).wp P Q a w :=
  wp_block (h _ (fun _ _ h => h) (fun _ _ h => by simpa [Exit.inBlock] using h) (fun e a w he hq => by
    cases e with
    | exit i =>
      have : i ≠ id := fun e => by simp [Exit.passes, e] at he
      simpa [Exit.inBlock, this] using hq
    | normal => cases he
    | goto l => exact hq
    | ret => exact hq
    | panic c => exact hq
    | outgrown => exact hq))
theorem fl_loop {α : Type} (Rel : α → Act → World → Prop) (μ : α → Nat) (x0 : α) (h0 : Rel x0 a w)
    (round : ∀ (g : α) (a : Act) (w : World), Rel g a w → ∀ Q' : Exit → Act → World → Prop, (∀ g' a' w', μ g' < μ g → Rel g' a' w' → Q' .normal a' w') → (∀ e a w, Exit.outw e = true → Q e a w → Q' e a w) → x.wp P Q' a w) : (Code.loop x).wp P Q a w := by
  refine wp_loop_ghost (fun n a w => ∃ g, μ g = n ∧ Rel g a w) (μ x0) ⟨x0, rfl, h0⟩ ?_
  rintro n a w ⟨g, rfl, hg⟩
  exact round g a w hg _ (fun g' a' w' hlt hr => ⟨μ g', hlt, g', rfl, hr⟩) (fun e a w he hq => by cases e <;> first | exact hq | cases he)
theorem fl_skip (h : Q .normal a w) : Code.skip.wp P Q a w := wp_skip h
theorem fl_exit (h : Q (.exit id) a w) : (Code.exit id).wp P Q a w := wp_exit h
theorem fl_ret (h : Q .ret a w) : Code.ret.wp P Q a w := wp_ret h
theorem fl_cond {c : Operand} {t : Bool} (hc : a.eval c = .bool t) (ht : t = true → x.wp P Q a w) (hf : t = false → y.wp P Q a w) : (Code.cond c x y).wp P Q a w := wp_cond_split hc ht hf
/-- Into a function. -/
theorem fl_enter {f : FuncId} {fn : Func} {c : Code} {args : Array Value} {n : Nat} {R : Ending → World → Prop} (rv : Act → Value) (hf : P.funcs[f]? = some fn) (hb : fn.body = some c) (hn : fn.ntmps = n) (ha : args.size ≤ n)
    (hr : ∀ (a : Act) (w : World), (results fn a.tmps).run P w = .ok (rv a) w)
    (h : ∀ (a : Act) (Q : Exit → Act → World → Prop), a.defers = [] → a.tmps.size = n → (∀ t v, args[t]? = some v → a.eval (.tmp t) = v) → (∀ a' w', a'.defers = [] → R (.returned (rv a')) w' → Q .ret a' w') → (∀ a' w', a'.defers = [] → R (.returned (rv a')) w' → Q .normal a' w') → c.wp P Q a w) : Calls P f args w R := by
  refine calls_of_wp hf hb (h _ _ rfl (by simp [hn]; omega) ?_ ?_ ?_)
  · intro t v hv
    show (args ++ Array.replicate (fn.ntmps - args.size) undef).getD t undef = v
    have hlt : t < args.size := (Array.getElem?_eq_some_iff.1 hv).1
    rw [Array.getD_eq_getD_getElem?, Array.getElem?_append_left hlt, hv]
    rfl
  · intro a' w' hd hR
    exact ⟨hd, _, hr a' w', hR⟩
  · intro a' w' hd hR
    exact ⟨hd, _, hr a' w', hR⟩
theorem res1 {fn : Func} {t : Tmp} (h : fn.results = #[.tmp t]) (a : Act) (w : World) : (results fn a.tmps).run P w = .ok (a.eval (.tmp t)) w := results_tmp h _ P w
theorem res2 {fn : Func} {t u : Tmp} (h : fn.results = #[.tmp t, .tmp u]) (a : Act) (w : World) : (results fn a.tmps).run P w = .ok (.tuple #[a.eval (.tmp t), a.eval (.tmp u)]) w := results_tmp2 h _ P w
theorem res3 {fn : Func} {t u v : Tmp} (h : fn.results = #[.tmp t, .tmp u, .tmp v]) (a : Act) (w : World) : (results fn a.tmps).run P w = .ok (.tuple #[a.eval (.tmp t), a.eval (.tmp u), a.eval (.tmp v)]) w := by
  simp [results, h, Act.eval]
theorem res0 {fn : Func} (h : fn.results = #[]) (a : Act) (w : World) : (results fn a.tmps).run P w = .ok (.tuple #[]) w := results_none h _ P w

/-! ### a region ahead of more code -/
section
variable {pu : Bool} {kl : List (Nat × Nat)} {ops : List Oper} {ds : List OpD} {rs : List Fct} {own0 : Own} {oth n : Nat} {bs : List Nat}
theorem rg_plain_seq {id : Nat} (hc : rgCheck n ops ds rs kl bs oth = true) (hz : a.tmps.size = n) (hdf : a.defers = [])
    (hr : ∀ f ∈ rs, f.p own0 a w) (hst : Steps P pu kl ops ds rs a w own0 oth 0 ops ds) (hfin : RgFin pu false kl ops ds rs a w own0 oth n (fun a w => y.wp P Q a w)) :
    (Code.seq (Code.region id ops.toArray false) y).wp P Q a w := wp_seq (rg_plain hc hz hdf hr hst hfin)
theorem rg_draw_seq {id : Nat} (hm : P.follows .mixedOrders = true) (hc : rgCheck n ops ds rs kl bs oth = true) (hz : a.tmps.size = n) (hdf : a.defers = [])
    (hr : ∀ f ∈ rs, f.p own0 a w) (hst : Steps P pu kl ops ds rs a w own0 oth 0 ops ds) (hfin : RgFin pu true kl ops ds rs a w own0 oth n (fun a w => y.wp P Q a w)) :
    (Code.seq (Code.region id ops.toArray true) y).wp P Q a w := wp_seq (rg_draw hm hc hz hdf hr hst hfin)
end

/-- The owners of the blocks that a region may touch. -/
def ownL (l : List (Nat × Nat)) (oth : Nat) : Own := fun b => ((l.find? fun p => p.1 == b).map (·.2)).getD oth
theorem ownL_oth {l : List (Nat × Nat)} {oth b : Nat} (h : ∀ p ∈ l, p.1 ≠ b) : ownL l oth b = oth := by
  unfold ownL
  rw [List.find?_eq_none.2 (fun p hp => by simpa using h p hp)]
  rfl
theorem blk_reads {w : World} {g : Nat} {t : TypeId} {cs : Array Value} {n size : Nat} {xs : List Value} (h : Blk w g t cs) (hx : cs.toList = xs) (hl : xs.length = n * size) : Reads w w.heap.size size (some ⟨g, 0, none⟩) n xs := by
  subst hx
  refine ⟨hl, fun _ => ⟨_, _, rfl, h.lt, fun j u hu => ?_⟩⟩
  rw [Nat.zero_add, h.cell j]
  simpa using hu
theorem Below.next {w0 w w' : World} (h : Below w0.heap.size w0 w) (h' : Below w.heap.size w w') : Below w0.heap.size w0 w' := h.trans (h'.mono h.size)
end
end Go.Proofs.Ytefhfbefgeadaaa
namespace Go.Proofs.Ytefhfbefgeadaaa
open Go.RowKit
section
variable {P : Program} {pu : Bool} {T : List Nat} {own : Own} {a : Act} {w : World} {k d : Nat} {V : Value}
theorem post_same : ∀ (e : Ending) (w' : World), (e = .returned V ∧ w = w') → ∃ v, e = .returned v ∧ Post pu T own a w (Fct.val k d V) (some d) v w' :=
  fun _ w' ⟨he, hw⟩ => ⟨V, he, fun _ => hw.symm, own, hw ▸ Evo.refl _ _ _, fun _ ha => ha.1 d rfl⟩
end
theorem ptC_atD (l : List Pt) (k : Nat) (h : k < l.length) : ((ptC l).drop (k * 2)).take 2 = [.int .i64 (l.getD k (0, 0)).1, .int .i64 (l.getD k (0, 0)).2] := by
  rw [ptC_at l k h]
  simp [List.getD_eq_getElem?_getD, h]
end Go.Proofs.Ytefhfbefgeadaaa
namespace Go.Proofs.Ytefhfbefgeadaaa
open Go.RowKit
theorem Ext.mono_ {ex ex' : Nat → Prop} {w w' : World} (h : Ext ex w w') (he : ∀ b, ex b → ex' b) : Ext ex' w w' := ⟨h.os, h.tape, h.output, h.size, fun b hb hn => h.block b hb (fun h => hn (he b h))⟩
theorem Ext.trans_ {ex ex' : Nat → Prop} {a b c : World} (h : Ext ex a b) (k : Ext ex' b c) (he : ∀ x, x < a.heap.size → ¬ ex x → ex' x → False) : Ext ex a c :=
  ⟨k.os.trans h.os, k.tape.trans h.tape, k.output.trans h.output, Nat.le_trans h.size k.size, fun x hx hn => (k.block x (Nat.lt_of_lt_of_le hx h.size) (he x hx hn)).trans (h.block x hx hn)⟩
theorem ownL_ne {l : List (Nat × Nat)} {oth b : Nat} (h : ownL l oth b ≠ oth) : ∃ p ∈ l, p.1 = b := by
  by_cases hp : ∃ p ∈ l, p.1 = b
  · exact hp
  · exact (h (ownL_oth fun p hm he => hp ⟨p, hm, he⟩)).elim
section
variable {P : Program} {pu : Bool} {T : List Nat} {own : Own} {a : Act} {w : World} {k d : Nat} {x y : Operand} {ty : TypeId} {pos : String} {after : Array Edge} {guard : Option (Nat × Bool)} {m n : Int} {kd : IntKind} {ts : Array TypeId}
theorem or_min (hx : a.eval x = .int kd m) (hy : a.eval y = .int kd n) : OpR P ⟨some d, .call ⟨.builtin .min, #[x, y], ts⟩, ty, pos, after, guard⟩ a w (Post pu T own a w (Fct.val k d (.int kd (imin m n))) (some d)) :=
  or_val (o := ⟨some d, .call ⟨.builtin .min, #[x, y], ts⟩, ty, pos, after, guard⟩) rfl (by
    simp only [execOp, resolve, invoke, builtin, List.map_toArray, List.map_cons, List.map_nil, hx, hy]
    simp [Sem.run_bind, run_min_one w ts ty kd kd m n])
theorem or_max (hx : a.eval x = .int kd m) (hy : a.eval y = .int kd n) : OpR P ⟨some d, .call ⟨.builtin .max, #[x, y], ts⟩, ty, pos, after, guard⟩ a w (Post pu T own a w (Fct.val k d (.int kd (imax m n))) (some d)) :=
  or_val (o := ⟨some d, .call ⟨.builtin .max, #[x, y], ts⟩, ty, pos, after, guard⟩) rfl (by
    simp only [execOp, resolve, invoke, builtin, List.map_toArray, List.map_cons, List.map_nil, hx, hy]
    simp [Sem.run_bind, run_max_one w ts ty kd kd m n])
end
end Go.Proofs.Ytefhfbefgeadaaa
namespace Go.Proofs.Ytefhfbefgeadaaa
theorem tup2 {a b a' b' : Value} (h1 : a = a') (h2 : b = b') : Value.tuple #[a, b] = .tuple #[a', b'] := by rw [h1, h2]
theorem tup3 {a b c a' b' c' : Value} (h1 : a = a') (h2 : b = b') (h3 : c = c') : Value.tuple #[a, b, c] = .tuple #[a', b', c'] := by rw [h1, h2, h3]
end Go.Proofs.Ytefhfbefgeadaaa
namespace Go.Proofs.Ytefhfbefgeadaaa
open Go.RowKit
theorem fl_round {P : Program} {a : Act} {w : World} {Q : Exit → Act → World → Prop} {x : Code} {n : Nat} (h : ∀ Q' : Exit → Act → World → Prop, (∀ a w, Code.rounds P x Q n a w → Q' .normal a w) → (∀ e a w, Exit.outw e = true → Q e a w → Q' e a w) → x.wp P Q' a w) : Code.rounds P x Q (n + 1) a w :=
  h _ (fun _ _ h => h) (fun e a w he hq => by cases e <;> first | exact hq | cases he)
section
variable {P : Program} {pu : Bool} {T : List Nat} {own : Own} {a : Act} {w : World} {k d : Nat} {x y : Operand} {ty t t2 : TypeId} {pos : String} {after : Array Edge} {guard : Option (Nat × Bool)} {u v b : Bool}
theorem or_eqlb (hT : P.underlying t = some .bool) (hx : a.eval x = .bool u) (hy : a.eval y = .bool v) (hb : (u == v) = b) : OpR P ⟨some d, .binOp .eql t x y t2, ty, pos, after, guard⟩ a w (Post pu T own a w (Fct.val k d (.bool b)) (some d)) :=
  or_val (o := ⟨some d, .binOp .eql t x y t2, ty, pos, after, guard⟩) rfl (by subst hb; simp only [execOp, hx, hy]; simp [Sem.run_bind, eqGuard_at_bool, run_eql_bool w t u v hT])
theorem or_neqb (hT : P.underlying t = some .bool) (hx : a.eval x = .bool u) (hy : a.eval y = .bool v) (hb : (!(u == v)) = b) : OpR P ⟨some d, .binOp .neq t x y t2, ty, pos, after, guard⟩ a w (Post pu T own a w (Fct.val k d (.bool b)) (some d)) :=
  or_val (o := ⟨some d, .binOp .neq t x y t2, ty, pos, after, guard⟩) rfl (by subst hb; simp only [execOp, hx, hy]; simp [Sem.run_bind, eqGuard_at_bool, run_neq_bool w t u v hT])
end
end Go.Proofs.Ytefhfbefgeadaaa
