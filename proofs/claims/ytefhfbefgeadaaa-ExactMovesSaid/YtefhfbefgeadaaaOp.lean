/-
  One lemma an operation, for the region rule. No program in sight.
-/
import Derived.Test.YtefhfbefgeadaaaSx
import Derived.Laws.Rows
import Derived.IntWalk
namespace Go.Proofs.Ytefhfbefgeadaaa
open Go.RowKit

section
variable {P : Program} {pu : Bool} {T : List Nat} {own : Own} {ops : List Oper} {a : Act} {w : World} {f : Fct} {o : Oper}

/-! ### is it carried out? -/
theorem sg_plain (hg : o.guard = none) (h : OpR P o a w (Post pu T own a w f o.dst)) : StepGoal P pu T ops own a w f o :=
  ⟨fun _ => h, fun hw => by simp [Region.wanted, hg] at hw⟩
theorem wanted_eq {j : Nat} {b v : Bool} {t : Tmp} (hg : o.guard = some (j, b)) (hs : slotOf ops j = some t) (he : a.eval (.tmp t) = .bool v) : Region.wanted o (yielded ops.toArray a.tmps) = (v == b) := by
  have he' : a.tmps.getD t undef = .bool v := he
  rw [Array.getD_eq_getD_getElem?] at he'
  simp only [slotOf] at hs
  simp only [Region.wanted, hg, yielded, List.getElem?_toArray, hs]
  cases ht : a.tmps[t]? with
  | none => rw [ht] at he'; simp [undef] at he'
  | some u =>
    rw [ht] at he'
    simp at he'
    subst he'
    simp only [Option.bind_some, ht]
    cases b <;> cases v <;> rfl
theorem sg_yes {j : Nat} {b : Bool} {t : Tmp} (hg : o.guard = some (j, b)) (hs : slotOf ops j = some t) (he : a.eval (.tmp t) = .bool b) (h : OpR P o a w (Post pu T own a w f o.dst)) : StepGoal P pu T ops own a w f o :=
  ⟨fun _ => h, fun hw => by rw [wanted_eq hg hs he] at hw; simp at hw⟩
theorem sg_no {j : Nat} {b v : Bool} {t : Tmp} (hg : o.guard = some (j, b)) (hs : slotOf ops j = some t) (he : a.eval (.tmp t) = .bool v) (hv : (v == b) = false) (h : ∀ a', Put a o.dst undef a' → f.p own a' w) : StepGoal P pu T ops own a w f o :=
  ⟨fun hw => (by rw [wanted_eq hg hs he, hv] at hw; cases hw), fun _ => h⟩

/-! ### operations that only yield a value -/
theorem or_val {k : Nat} {d : Tmp} {V : Value} (hd : o.dst = some d) (h : (execOp a.eval o).run P w = .ok (.value V) w) : OpR P o a w (Post pu T own a w (Fct.val k d V) o.dst) := by
  unfold OpR Oper.wp
  rw [h]
  exact ⟨V, rfl, fun _ => rfl, own, Evo.refl _ _ _, fun a' ha => ha.1 d hd⟩

/-- The values of slots, as a list. -/
def lk (l : List (Nat × Value)) : Operand → Value
  | .tmp t => ((l.find? fun p => Nat.beq p.1 t).map (·.2)).getD undef
  | .const v => v
  | .global g => .pointer (some ⟨g, 0, none⟩)
  | .func f => .func (.func f) #[] #[]
def AllE (a : Act) : List (Nat × Value) → Prop
  | [] => True
  | p :: r => a.eval (.tmp p.1) = p.2 ∧ AllE a r
def covers (l : List (Nat × Value)) (o : Oper) : Bool :=
  (o.op.operands.toList.all fun x => match x with
    | .tmp t => l.any fun p => Nat.beq p.1 t
    | _ => true) && (match o.op with | .select .. => false | _ => true)
theorem AllE.get {l : List (Nat × Value)} (h : AllE a l) {t : Nat} (ht : (l.any fun p => Nat.beq p.1 t) = true) : a.eval (.tmp t) = lk l (.tmp t) := by
  induction l with
  | nil => simp at ht
  | cons p r ih =>
    simp only [lk, List.find?_cons]
    by_cases hp : Nat.beq p.1 t = true
    · have := Nat.eq_of_beq_eq_true hp
      simp only [hp]
      rw [← this]
      exact h.1
    · simp only [Bool.not_eq_true] at hp
      simp only [List.any_cons, hp, Bool.false_or] at ht
      simp only [hp]
      exact ih h.2 ht
theorem exec_lk {l : List (Nat × Value)} (hc : covers l o = true) (h : AllE a l) : execOp a.eval o = execOp (lk l) o := by
  simp only [covers, Bool.and_eq_true] at hc
  refine execOp_congr o ?_ ?_
  · intro cs b he
    rw [he] at hc
    simp at hc
  · intro x hx
    have := List.all_eq_true.1 hc.1 x (by simpa using hx)
    cases x with
    | tmp t => exact h.get this
    | const v => rfl
    | global g => rfl
    | func f => rfl
/-- Whatever the kernel can run by itself. -/
theorem or_k {k : Nat} {d : Tmp} {V : Value} (l : List (Nat × Value)) (hd : o.dst = some d) (hc : covers l o = true) (hl : AllE a l) (h : (execOp (lk l) o).run P w = .ok (.value V) w) :
    OpR P o a w (Post pu T own a w (Fct.val k d V) o.dst) := or_val hd (by rw [exec_lk hc hl]; exact h)
theorem or_kz {k : Nat} {d : Tmp} {V V' : Value} (l : List (Nat × Value)) (hd : o.dst = some d) (hc : covers l o = true) (hl : AllE a l) (h : (execOp (lk l) o).run P w = .ok (.value V') w) (hz : V' = V) :
    OpR P o a w (Post pu T own a w (Fct.val k d V) o.dst) := or_val hd (by rw [exec_lk hc hl, ← hz]; exact h)
/-- A new block, with what the kernel says that it holds. -/
theorem or_new {k d : Nat} {t : TypeId} {cs : Array Value} {mk : Nat → Value} {base : Nat} (l : List (Nat × Value)) (hd : o.dst = some d) (hc : covers l o = true) (hl : AllE a l) (hpu : pu = false) (hb : base ≤ w.heap.size)
    (h : (execOp (lk l) o).run P w = .ok (.value (mk w.heap.size)) (w.alloc (.cells cs t))) : OpR P o a w (Post pu T own a w (Fct.blk k d base mk t cs) o.dst) := by
  unfold OpR Oper.wp
  rw [exec_lk hc hl, h]
  exact ⟨_, rfl, fun h => (by rw [hpu] at h; cases h), newOwn w k own, Evo.ofAlloc w k _, fun a' ha => ⟨w.heap.size, ha.1 d hd, newOwn_new (Nat.le_refl _), hb, Blk.new w t cs⟩⟩

section
variable {k d : Nat} {V : Value} {x y z : Operand} {ty : TypeId} {pos : String} {after : Array Edge} {guard : Option (Nat × Bool)}
theorem or_move (hx : a.eval x = V) : OpR P ⟨some d, .move x, ty, pos, after, guard⟩ a w (Post pu T own a w (Fct.val k d V) (some d)) := or_val (o := ⟨some d, .move x, ty, pos, after, guard⟩) rfl (by subst hx; rfl)
theorem or_assign (hx : a.eval x = V) : OpR P ⟨some d, .assign x, ty, pos, after, guard⟩ a w (Post pu T own a w (Fct.val k d V) (some d)) := or_val (o := ⟨some d, .assign x, ty, pos, after, guard⟩) rfl (by subst hx; rfl)
theorem or_pick_t (hz : a.eval z = .bool true) (hx : a.eval x = V) : OpR P ⟨some d, .pick z x y, ty, pos, after, guard⟩ a w (Post pu T own a w (Fct.val k d V) (some d)) :=
  or_val (o := ⟨some d, .pick z x y, ty, pos, after, guard⟩) rfl (by simp [execOp, hz, hx, asBool])
theorem or_pick_f (hz : a.eval z = .bool false) (hy : a.eval y = V) : OpR P ⟨some d, .pick z x y, ty, pos, after, guard⟩ a w (Post pu T own a w (Fct.val k d V) (some d)) :=
  or_val (o := ⟨some d, .pick z x y, ty, pos, after, guard⟩) rfl (by simp [execOp, hz, hy, asBool])
theorem or_pick {b u v : Bool} (hz : a.eval z = .bool b) (hx : a.eval x = .bool u) (hy : a.eval y = .bool v) : OpR P ⟨some d, .pick z x y, ty, pos, after, guard⟩ a w (Post pu T own a w (Fct.val k d (.bool (if b then u else v))) (some d)) :=
  or_val (o := ⟨some d, .pick z x y, ty, pos, after, guard⟩) rfl (by cases b <;> simp [execOp, hz, hx, hy, asBool])

variable {m n r : Int} {kd : IntKind} {yt yt2 : TypeId} {b : Bool}
theorem w64 {x z : Int} (h : -9223372036854775808 ≤ x ∧ x ≤ 9223372036854775807 ∧ x = z) : IntKind.i64.wrap x = z := by
  rw [IntWalk.i64_in _ (by omega)]; exact h.2.2
theorem or_add (hx : a.eval x = .int kd m) (hy : a.eval y = .int kd n) (hz : kd.wrap (m + n) = r) : OpR P ⟨some d, .binOp .add yt x y yt2, ty, pos, after, guard⟩ a w (Post pu T own a w (Fct.val k d (.int kd r)) (some d)) :=
  or_val (o := ⟨some d, .binOp .add yt x y yt2, ty, pos, after, guard⟩) rfl (by simp only [execOp, hx, hy]; simp [go_sem, hz])
theorem or_sub (hx : a.eval x = .int kd m) (hy : a.eval y = .int kd n) (hz : kd.wrap (m - n) = r) : OpR P ⟨some d, .binOp .sub yt x y yt2, ty, pos, after, guard⟩ a w (Post pu T own a w (Fct.val k d (.int kd r)) (some d)) :=
  or_val (o := ⟨some d, .binOp .sub yt x y yt2, ty, pos, after, guard⟩) rfl (by simp only [execOp, hx, hy]; simp [go_sem, hz])
theorem or_mul (hx : a.eval x = .int kd m) (hy : a.eval y = .int kd n) (hz : kd.wrap (m * n) = r) : OpR P ⟨some d, .binOp .mul yt x y yt2, ty, pos, after, guard⟩ a w (Post pu T own a w (Fct.val k d (.int kd r)) (some d)) :=
  or_val (o := ⟨some d, .binOp .mul yt x y yt2, ty, pos, after, guard⟩) rfl (by simp only [execOp, hx, hy]; simp [go_sem, hz])
theorem or_lss (hx : a.eval x = .int kd m) (hy : a.eval y = .int kd n) (hb : decide (m < n) = b) : OpR P ⟨some d, .binOp .lss yt x y yt2, ty, pos, after, guard⟩ a w (Post pu T own a w (Fct.val k d (.bool b)) (some d)) :=
  or_val (o := ⟨some d, .binOp .lss yt x y yt2, ty, pos, after, guard⟩) rfl (by subst hb; simp only [execOp, hx, hy]; simp [go_sem])
theorem or_leq (hx : a.eval x = .int kd m) (hy : a.eval y = .int kd n) (hb : decide (m ≤ n) = b) : OpR P ⟨some d, .binOp .leq yt x y yt2, ty, pos, after, guard⟩ a w (Post pu T own a w (Fct.val k d (.bool b)) (some d)) :=
  or_val (o := ⟨some d, .binOp .leq yt x y yt2, ty, pos, after, guard⟩) rfl (by subst hb; simp only [execOp, hx, hy]; simp [go_sem])
theorem or_gtr (hx : a.eval x = .int kd m) (hy : a.eval y = .int kd n) (hb : decide (n < m) = b) : OpR P ⟨some d, .binOp .gtr yt x y yt2, ty, pos, after, guard⟩ a w (Post pu T own a w (Fct.val k d (.bool b)) (some d)) :=
  or_val (o := ⟨some d, .binOp .gtr yt x y yt2, ty, pos, after, guard⟩) rfl (by subst hb; simp only [execOp, hx, hy]; simp [go_sem])
theorem or_geq (hx : a.eval x = .int kd m) (hy : a.eval y = .int kd n) (hb : decide (n ≤ m) = b) : OpR P ⟨some d, .binOp .geq yt x y yt2, ty, pos, after, guard⟩ a w (Post pu T own a w (Fct.val k d (.bool b)) (some d)) :=
  or_val (o := ⟨some d, .binOp .geq yt x y yt2, ty, pos, after, guard⟩) rfl (by subst hb; simp only [execOp, hx, hy]; simp [go_sem])
theorem or_eql (hx : a.eval x = .int kd m) (hy : a.eval y = .int kd n) (hb : (m == n) = b) : OpR P ⟨some d, .binOp .eql yt x y yt2, ty, pos, after, guard⟩ a w (Post pu T own a w (Fct.val k d (.bool b)) (some d)) :=
  or_val (o := ⟨some d, .binOp .eql yt x y yt2, ty, pos, after, guard⟩) rfl (by subst hb; simp only [execOp, hx, hy]; simp [go_sem])
theorem or_neq (hx : a.eval x = .int kd m) (hy : a.eval y = .int kd n) (hb : (m != n) = b) : OpR P ⟨some d, .binOp .neq yt x y yt2, ty, pos, after, guard⟩ a w (Post pu T own a w (Fct.val k d (.bool b)) (some d)) :=
  or_val (o := ⟨some d, .binOp .neq yt x y yt2, ty, pos, after, guard⟩) rfl (by subst hb; simp only [execOp, hx, hy]; simp [go_sem])
theorem or_not {b' : Bool} (hx : a.eval x = .bool b) (hb : (!b) = b') : OpR P ⟨some d, .unOp .not yt x, ty, pos, after, guard⟩ a w (Post pu T own a w (Fct.val k d (.bool b')) (some d)) :=
  or_val (o := ⟨some d, .unOp .not yt x, ty, pos, after, guard⟩) rfl (by subst hb; simp only [execOp, hx]; simp [go_sem])
end
end

/-! ### memory -/
def TAgg (P : Program) (t : TypeId) (n : Nat) : Prop := ∀ w : World, (isAgg t).run P w = .ok true w ∧ (sizeOf t).run P w = .ok n w
def TOne (P : Program) (t : TypeId) : Prop := ∀ w : World, (isAgg t).run P w = .ok false w
def TSize (P : Program) (t : TypeId) (n : Nat) : Prop := ∀ w : World, (sizeOf t).run P w = .ok n w
def FOff (P : Program) (t : TypeId) (i off : Nat) : Prop := ∀ (p : Addr) (w : World), (Instr.fieldAt t (.pointer (some p)) i).run P w = .ok (.pointer (some (p.add off))) w
def CF (P : Program) (f : FuncId) : Prop := ∀ (args : Array Value) (w : World), (callFunc f args).run P w = .ok (.enter f args) w
def TSlice (P : Program) (t : TypeId) (size : Nat) : Prop := ∃ e, P.underlying t = some (.slice e) ∧ TSize P e size
/-- From address p on the cells l. -/
def CellsAt (w : World) (p : Addr) (l : List Value) : Prop := ∀ j v, l[j]? = some v → w.cell? (p.add j) = some v
def adr (A : Option Addr) : Addr := A.getD ⟨0, 0, none⟩

theorem add_add (p : Addr) (i j : Nat) : (p.add i).add j = p.add (i + j) := by
  unfold Addr.add
  by_cases hi : i = 0 <;> by_cases hj : j = 0 <;> simp [hi, hj, Nat.add_assoc]
theorem CellsAt.one {w : World} {p : Addr} {l : List Value} (h : CellsAt w p l) {j : Nat} {v : Value} (hv : l[j]? = some v) : w.cell? (p.add j) = some v := h j v hv
theorem CellsAt.zero {w : World} {p : Addr} {l : List Value} (h : CellsAt w p l) {v : Value} (hv : l[0]? = some v) : w.cell? p = some v := by have := h 0 v hv; simpa [Addr.add] using this
theorem CellsAt.part {w : World} {p : Addr} {l l' : List Value} (h : CellsAt w p l) (o : Nat) (hl : (l.drop o).take l'.length = l') : CellsAt w (p.add o) l' := by
  intro j v hv
  rw [add_add]
  refine h _ v ?_
  rw [← hl, List.getElem?_take] at hv
  split at hv
  · rw [List.getElem?_drop] at hv; exact hv
  · cases hv
theorem Blk.cells {w : World} {g : Nat} {t : TypeId} {cs : Array Value} (h : Blk w g t cs) : CellsAt w ⟨g, 0, none⟩ cs.toList := by
  intro j v hv
  have : (⟨g, 0, none⟩ : Addr).add j = ⟨g, j, none⟩ := by unfold Addr.add; split <;> simp_all
  rw [this, h.cell j]
  simpa using hv
theorem Blk.cellsFrom {w : World} {g : Nat} {t : TypeId} {cs : Array Value} (h : Blk w g t cs) (o : Nat) {l' : List Value} (hl : (cs.toList.drop o).take l'.length = l') : CellsAt w ⟨g, o, none⟩ l' := by
  have := h.cells.part o hl
  have e : (⟨g, 0, none⟩ : Addr).add o = ⟨g, o, none⟩ := by unfold Addr.add; split <;> simp_all
  rwa [e] at this
theorem Blk.at_ {w : World} {g : Nat} {t : TypeId} {cs : Array Value} (h : Blk w g t cs) (o : Nat) {v : Value} (hv : cs[o]? = some v) : w.cell? ⟨g, o, none⟩ = some v := (h.cell o).trans hv
theorem Reads.addr {w : World} {B size n : Nat} {A : Option Addr} {xs : List Value} (h : Reads w B size A n xs) (hn : 0 < n) : A = some (adr A) ∧ (adr A).block < B ∧ (adr A).spot = none := by
  obtain ⟨b, off, rfl, hb, _⟩ := h.2 hn
  exact ⟨rfl, hb, rfl⟩
theorem Reads.cellsAt {w : World} {B size n : Nat} {A : Option Addr} {xs : List Value} (h : Reads w B size A n xs) {k : Nat} (hk : k < n) {l : List Value} (hl : (xs.drop (k * size)).take l.length = l) : CellsAt w ((adr A).add (k * size)) l := by
  obtain ⟨b, off, rfl, hb, hc⟩ := h.2 (by omega)
  intro j v hv
  rw [add_add]
  have e : (adr (some ⟨b, off, none⟩)).add (k * size + j) = ⟨b, off + (k * size + j), none⟩ := by
    show (⟨b, off, none⟩ : Addr).add _ = _
    unfold Addr.add; split <;> simp_all
  rw [e]
  refine hc _ v ?_
  rw [← hl, List.getElem?_take] at hv
  split at hv
  · rw [List.getElem?_drop] at hv; exact hv
  · cases hv
theorem ptC_at (l : List Pt) (k : Nat) (h : k < l.length) : ((ptC l).drop (k * 2)).take 2 = [.int .i64 l[k].1, .int .i64 l[k].2] := by
  rw [ptC_drop, List.drop_eq_getElem_cons h]
  rfl

theorem run_loadAgg {P : Program} {t : TypeId} {n : Nat} (hT : TAgg P t n) {w : World} {p : Addr} {l : List Value} (hc : CellsAt w p l) (hl : l.length = n) : (Instr.loadAt t (.pointer (some p))).run P w = .ok (.agg l.toArray) w := by
  have h := run_loadCells_list (P := P) w p l hc
  rw [hl] at h
  simp [Instr.loadAt, Instr.sureAddr, loadVar, Sem.run_bind, (hT w).1, (hT w).2, h]
theorem run_loadOne {P : Program} {t : TypeId} (hT : TOne P t) {w : World} {p : Addr} {v : Value} (hc : w.cell? p = some v) : (Instr.loadAt t (.pointer (some p))).run P w = .ok v w := by
  simp [Instr.loadAt, Instr.sureAddr, loadVar, Sem.run_bind, hT w, load, Sem.run, hc]

section
variable {P : Program} {pu : Bool} {T : List Nat} {own : Own} {a : Act} {w : World} {k d : Nat} {V : Value} {x y z : Operand} {t ty : TypeId} {pos : String} {after : Array Edge} {guard : Option (Nat × Bool)}
theorem or_load {p : Addr} {n : Nat} {l : List Value} (hT : TAgg P t n) (hx : a.eval x = .pointer (some p)) (hc : CellsAt w p l) (hl : l.length = n) :
    OpR P ⟨some d, .load t x, ty, pos, after, guard⟩ a w (Post pu T own a w (Fct.val k d (.agg l.toArray)) (some d)) :=
  or_val (o := ⟨some d, .load t x, ty, pos, after, guard⟩) rfl (by simp only [execOp, hx]; simp [Sem.run_bind, run_loadAgg hT hc hl])
theorem or_load1 {p : Addr} (hT : TOne P t) (hx : a.eval x = .pointer (some p)) (hc : w.cell? p = some V) :
    OpR P ⟨some d, .load t x, ty, pos, after, guard⟩ a w (Post pu T own a w (Fct.val k d V) (some d)) :=
  or_val (o := ⟨some d, .load t x, ty, pos, after, guard⟩) rfl (by simp only [execOp, hx]; simp [Sem.run_bind, run_loadOne hT hc])
theorem or_field {p q : Addr} {i off : Nat} (hT : FOff P t i off) (hx : a.eval x = .pointer (some p)) (hq : p.add off = q) :
    OpR P ⟨some d, .fieldAddr t x i, ty, pos, after, guard⟩ a w (Post pu T own a w (Fct.val k d (.pointer (some q))) (some d)) :=
  or_val (o := ⟨some d, .fieldAddr t x i, ty, pos, after, guard⟩) rfl (by subst hq; simp only [execOp, hx]; simp [Sem.run_bind, hT p w])
theorem or_index {A : Option Addr} {n c j size : Nat} {i : Int} {kd : IntKind} {q : Addr} (hT : TSlice P t size) (hx : a.eval x = .slice A n c) (hy : a.eval y = .int kd i) (hi : i = (j : Int)) (hj : j < n) (hA : A = some (adr A)) (hq : (adr A).add (j * size) = q) :
    OpR P ⟨some d, .indexAddr t x y, ty, pos, after, guard⟩ a w (Post pu T own a w (Fct.val k d (.pointer (some q))) (some d)) :=
  or_val (o := ⟨some d, .indexAddr t x y, ty, pos, after, guard⟩) rfl (by
    obtain ⟨e, he, hs⟩ := hT
    subst hq hi
    simp only [execOp, hx, hy]
    rw [hA]
    simp [Sem.run_bind, Instr.indexAt, asIntOf, run_underlying he, hs w, hj, adr])
theorem or_len {A : Option Addr} {n c : Nat} {e : TypeId} {r : Int} (hT : P.underlying t = some (.slice e)) (hx : a.eval x = .slice A n c) (hr : (n : Int) = r) :
    OpR P ⟨some d, .call ⟨.builtin .len, #[x], #[t]⟩, ty, pos, after, guard⟩ a w (Post pu T own a w (Fct.val k d (.int .i64 r)) (some d)) :=
  or_val (o := ⟨some d, .call ⟨.builtin .len, #[x], #[t]⟩, ty, pos, after, guard⟩) rfl (by
    subst hr
    have : (Builtin.len_ #[t] ty #[.slice A n c]).run P w = .ok (goInt n) w := by simp [Builtin.len_, run_underlying hT]
    simp only [execOp, resolve, invoke, builtin, List.map_toArray, List.map_cons, List.map_nil, hx]
    simp [Sem.run_bind, this, goInt])
/-- A store of one cell into a block of the call's own; the block's new owner is k. -/
theorem grown_set (w : World) (g i : Nat) (v : Value) : w.grownBy (w.setCell ⟨g, i, none⟩ v) (some g) :=
  ⟨rfl, rfl, rfl, by simp [World.setCell], fun b _ hne => Below.heap_setCell _ _ _ _ (by simpa using hne)⟩
theorem run_storeOne {P : Program} {t : TypeId} (hT : TSize P t 1) {w : World} {g i : Nat} {ut : TypeId} {cs : Array Value} {v : Value} (hb : Blk w g ut cs) (hi : i < cs.size) (hv : v.oneCell' = true) : (Instr.storeAt t (.pointer (some ⟨g, i, none⟩)) v).run P w = .ok () (w.setCell ⟨g, i, none⟩ v) := by
  have h1 : v.cells = #[v] := by cases v <;> simp_all [Value.cells, Value.oneCell']
  have hc : w.cell? ⟨g, i, none⟩ = some cs[i] := by rw [hb.cell i]; simp [hi]
  have h0 : Addr.add ⟨g, i, none⟩ 0 = ⟨g, i, none⟩ := by simp [Addr.add]
  simp [Instr.storeAt, Instr.sureAddr, storeVar, Sem.run_bind, hT w, h1, storeCells, h0, run_store _ _ _ _ _ hv, stored, hc, hb.frozen i]
theorem or_store1 {g i : Nat} {ut : TypeId} {cs cs' : Array Value} {f : Fct} (hT : TSize P t 1) (hpu : pu = false) (hx : a.eval x = .pointer (some ⟨g, i, none⟩)) (hy : a.eval y = V) (hb : Blk w g ut cs) (hi : i < cs.size) (hv : V.oneCell' = true) (hg : own g ∈ T) (hcs : cs.setIfInBounds i V = cs')
    (hf : ∀ (own' : Own) (a' : Act) (w' : World), own' g = k → (∀ t, a'.eval (.tmp t) = a.eval (.tmp t)) → Blk w' g ut cs' → f.p own' a' w') :
    OpR P ⟨none, .store t x y, ty, pos, after, guard⟩ a w (Post pu T own a w f none) := by
  unfold OpR Oper.wp
  have hr : (execOp a.eval ⟨none, .store t x y, ty, pos, after, guard⟩).run P w = .ok .skip (w.setCell ⟨g, i, none⟩ V) := by
    simp only [execOp, hx, hy]
    simp [Sem.run_bind, run_storeOne hT hb hi hv]
  rw [hr]
  refine ⟨undef, rfl, fun h => (by rw [hpu] at h; cases h), _, Evo.ofSet (k := k) hg (grown_set w g i V), fun a' ha => hf _ a' _ (by simp) (fun t => ha.2 t (by simp)) ?_⟩
  rw [← hcs]
  exact hb.set_ i V
/-- A struct stored into a block of the call's own. -/
theorem run_storeAgg {P : Program} {t : TypeId} {w : World} {g o : Nat} {ut : TypeId} {cs l cs' : Array Value} (hT : TSize P t l.size) (hb : Blk w g ut cs) (hl : o + l.size ≤ cs.size) (hv : l.all (·.oneCell') = true)
    (hcs : (cs.toList.take o ++ l.toList ++ cs.toList.drop (o + l.size)).toArray = cs') :
    ∃ w', (Instr.storeAt t (.pointer (some ⟨g, o, none⟩)) (.agg l)).run P w = .ok () w' ∧ Blk w' g ut cs' ∧ w.grownBy w' (some g) := by
  have h := run_storeCells_at (P := P) g o ut l.toList 0 cs w hb (by simpa using hl) (fun v hv' => (Array.all_eq_true_iff_forall_mem.1 hv) v (by simpa using hv'))
  simp only [Nat.add_zero, Array.length_toList] at h
  rw [hcs] at h
  refine ⟨w.setRow g cs', ?_, setRow_heap w g cs _ ut _ hb, ⟨rfl, rfl, rfl, by simp, fun b _ hne => setRow_other w g b _ (fun e => hne (by rw [e]))⟩⟩
  simp [Instr.storeAt, Instr.sureAddr, storeVar, Sem.run_bind, hT w, Value.cells, h]
theorem or_store {g o : Nat} {ut : TypeId} {cs l cs' : Array Value} {f : Fct} (hT : TSize P t l.size) (hpu : pu = false) (hx : a.eval x = .pointer (some ⟨g, o, none⟩)) (hy : a.eval y = .agg l) (hb : Blk w g ut cs) (hl : o + l.size ≤ cs.size) (hv : l.all (·.oneCell') = true) (hg : own g ∈ T)
    (hcs : (cs.toList.take o ++ l.toList ++ cs.toList.drop (o + l.size)).toArray = cs')
    (hf : ∀ (own' : Own) (a' : Act) (w' : World), own' g = k → (∀ t, a'.eval (.tmp t) = a.eval (.tmp t)) → Blk w' g ut cs' → f.p own' a' w') :
    OpR P ⟨none, .store t x y, ty, pos, after, guard⟩ a w (Post pu T own a w f none) := by
  obtain ⟨w', h, hb', hgr⟩ := run_storeAgg (P := P) hT hb hl hv hcs
  unfold OpR Oper.wp
  have hr : (execOp a.eval ⟨none, .store t x y, ty, pos, after, guard⟩).run P w = .ok .skip w' := by
    simp only [execOp, hx, hy]
    simp [Sem.run_bind, h]
  rw [hr]
  exact ⟨undef, rfl, fun h => (by rw [hpu] at h; cases h), _, Evo.ofSet (k := k) hg hgr, fun a' ha => hf _ a' _ (by simp) (fun t => ha.2 t (by simp)) hb'⟩
/-! ### calls -/
theorem args0 : (#[] : Array Operand).map a.eval = #[] := by simp
theorem args1 {v : Value} (h : a.eval x = v) : (#[x] : Array Operand).map a.eval = #[v] := by simp [h]
theorem args2 {v u : Value} (h : a.eval x = v) (h2 : a.eval y = u) : (#[x, y] : Array Operand).map a.eval = #[v, u] := by simp [h, h2]
theorem args3 {v u s : Value} (h : a.eval x = v) (h2 : a.eval y = u) (h3 : a.eval z = s) : (#[x, y, z] : Array Operand).map a.eval = #[v, u, s] := by simp [h, h2, h3]
theorem args4 {x4 : Operand} {v u s v4 : Value} (h : a.eval x = v) (h2 : a.eval y = u) (h3 : a.eval z = s) (h4 : a.eval x4 = v4) : (#[x, y, z, x4] : Array Operand).map a.eval = #[v, u, s, v4] := by simp [h, h2, h3, h4]
theorem args5 {x4 x5 : Operand} {v u s v4 v5 : Value} (h : a.eval x = v) (h2 : a.eval y = u) (h3 : a.eval z = s) (h4 : a.eval x4 = v4) (h5 : a.eval x5 = v5) : (#[x, y, z, x4, x5] : Array Operand).map a.eval = #[v, u, s, v4, v5] := by simp [h, h2, h3, h4, h5]
theorem or_call {f : FuncId} {args : Array Operand} {ts : Array TypeId} {vs : Array Value} {dst : Option Tmp} {fc : Fct} {R : Ending → World → Prop} (hf : CF P f) (he : args.map a.eval = vs) (hc : Calls P f vs w R)
    (hR : ∀ e w', R e w' → ∃ v, e = .returned v ∧ Post pu T own a w fc dst v w') :
    OpR P ⟨dst, .call ⟨.value (.func f), args, ts⟩, ty, pos, after, guard⟩ a w (Post pu T own a w fc dst) := by
  unfold OpR Oper.wp
  have hr : (execOp a.eval ⟨dst, .call ⟨.value (.func f), args, ts⟩, ty, pos, after, guard⟩).run P w = .ok (.enter f vs) w := by
    have e : a.eval (.func f) = .func (.func f) #[] #[] := rfl
    simp only [execOp, resolve, he, e, Deferred.ofValue]
    simp [Sem.run_bind, invoke, hf vs w]
  rw [hr]
  refine hc.mono fun e w' h => ?_
  obtain ⟨v, rfl, hp⟩ := hR e w' h
  exact ⟨v, rfl, hp⟩
theorem or_callf {f : FuncId} {args : Array Operand} {ts : Array TypeId} {vs ws fi ca : Array Value} {dst : Option Tmp} {fc : Fct} {R : Ending → World → Prop} (hf : CF P f) (hx : a.eval x = .func (.func f) fi ca) (he : args.map a.eval = vs) (hw : fi ++ vs ++ ca = ws) (hc : Calls P f ws w R)
    (hR : ∀ e w', R e w' → ∃ v, e = .returned v ∧ Post pu T own a w fc dst v w') :
    OpR P ⟨dst, .call ⟨.value x, args, ts⟩, ty, pos, after, guard⟩ a w (Post pu T own a w fc dst) := by
  unfold OpR Oper.wp
  have hr : (execOp a.eval ⟨dst, .call ⟨.value x, args, ts⟩, ty, pos, after, guard⟩).run P w = .ok (.enter f ws) w := by
    simp only [execOp, resolve, he, hx, Deferred.ofValue]
    simp [Sem.run_bind, invoke, hw, hf ws w]
  rw [hr]
  refine hc.mono fun e w' h => ?_
  obtain ⟨v, rfl, hp⟩ := hR e w' h
  exact ⟨v, rfl, hp⟩
/-- A call whose value is known, and that turns nothing that was there. -/
theorem post_val (hpu : pu = false) : ∀ (e : Ending) (w' : World), (e = .returned V ∧ Below w.heap.size w w') → ∃ v, e = .returned v ∧ Post pu T own a w (Fct.val k d V) (some d) v w' :=
  fun _ w' ⟨he, hb⟩ => ⟨V, he, fun h => (by rw [hpu] at h; cases h), newOwn w k own, Evo.ofBelow k hb, fun _ ha => ha.1 d rfl⟩
end
end Go.Proofs.Ytefhfbefgeadaaa
