import Derived.Test.YtnmkonlfnpcoiaaSx
import Derived.Test.YtnmkonlfnpcoiaaPre
import Derived.Laws.Rows
import Derived.IntWalk
namespace Go.Proofs.Ytnmkonlfnpcoiaa
open Go.RowKit
theorem gL {a b : Bool} (h : (a && b) = true) : a = true := by cases a <;> simp_all
theorem gR {a b : Bool} (h : (a && b) = true) : b = true := by cases a <;> simp_all
theorem gI {a b : Bool} (h : a = true) (h' : b = true) : (a && b) = true := by simp_all
theorem nT {b : Bool} (h : (!b) = true) : b = false := by cases b <;> first | rfl | cases h
theorem nI {b : Bool} (h : b = false) : (!b) = true := by subst h; rfl
section
variable {r : Option Nat} {P : Program} {T : List Nat} {own : Own} {ops : List Oper} {a : Act} {w : World} {f : Fct} {o : Oper}
theorem sg_plain (hg : o.guard = none) (hn : noDefer o = true) (h : OpR P o a w (Post T own a w f o.dst)) : StepGoal r P T ops own a w f o :=
  ⟨fun _ => opF_of (.inr hn) h, fun hw => by simp [Region.wanted, hg] at hw⟩
theorem px (h : OpR P o a w (Post T own a w f o.dst)) (hg : o.guard = none := by exact rfl) (hn : noDefer o = true := by exact rfl) : StepGoal r P T ops own a w f o := sg_plain hg hn h
theorem wanted_eq {j : Nat} {b v : Bool} {t : Tmp} (hg : o.guard = some (j, b)) (hs : slotOf ops j = some t) (he : a.eval (.tmp t) = .bool v) : Region.wanted o (yielded ops.toArray a.tmps) = (v == b) := by
  have he' : a.tmps.getD t undef = .bool v := he
  rw [Array.getD_eq_getD_getElem?] at he'
  simp only [slotOf] at hs
  simp only [Region.wanted, hg, yielded, List.getElem?_toArray, hs]
  cases ht : a.tmps[t]? with
  | none => rw [ht] at he'; simp [undef] at he'
  | some u =>
    rw [ht] at he'
    simp at he'
    subst he'
    simp only [Option.bind_some, ht]
    cases b <;> cases v <;> rfl
theorem not_wanted {j : Nat} {b : Bool} {t : Tmp} (hg : o.guard = some (j, b)) (hs : slotOf ops j = some t) (he : a.eval (.tmp t) = undef) : Region.wanted o (yielded ops.toArray a.tmps) = false := by
  have he' : a.tmps.getD t undef = undef := he
  rw [Array.getD_eq_getD_getElem?] at he'
  simp only [slotOf] at hs
  simp only [Region.wanted, hg, yielded, List.getElem?_toArray, hs, Option.bind_some]
  cases ht : a.tmps[t]? with
  | none => simp
  | some u =>
    rw [ht] at he'
    simp at he'
    subst he'
    simp [undef]
theorem sg_if {c : Bool} {j : Nat} {b : Bool} {t : Tmp} (hg : o.guard = some (j, b)) (hs : slotOf ops j = some t) (hn : noDefer o = true) (hy : c = true → a.eval (.tmp t) = .bool b) (hno : c = false → a.eval (.tmp t) = .bool (!b) ∨ a.eval (.tmp t) = undef)
    (h : c = true → OpR P o a w (Post T own a w f o.dst)) : StepGoal r P T ops own a w (Fct.cond c o.dst f) o := by
  cases c with
  | true =>
    refine ⟨fun _ => opF_of (.inr hn) (oper_wp_q (Q := fun _ _ _ => False) ?_ (h rfl)), fun hw => ?_⟩
    · rintro a' w' ⟨v, rfl, own', hev, hq⟩
      exact ⟨v, rfl, own', hev, fun a' ha => ⟨fun _ => hq a' ha, fun hf => (by cases hf)⟩⟩
    · rw [wanted_eq hg hs (hy rfl)] at hw; simp at hw
  | false =>
    refine ⟨fun hw => ?_, fun _ => ⟨own, Evo.refl _ _ _, fun a' ha => ⟨fun hf => (by cases hf), fun _ t' ht => ha.1 t' ht⟩⟩⟩
    exfalso
    rcases hno rfl with h1 | h1
    · rw [wanted_eq hg hs h1] at hw; cases b <;> simp at hw
    · rw [not_wanted hg hs h1] at hw; cases hw
theorem sg_t {v : Bool} {j : Nat} {t : Tmp} (hg : o.guard = some (j, true)) (hs : slotOf ops j = some t) (hn : noDefer o = true) (he : a.eval (.tmp t) = .bool v) (h : v = true → OpR P o a w (Post T own a w f o.dst)) : StepGoal r P T ops own a w (Fct.cond v o.dst f) o :=
  sg_if hg hs hn (fun hc => by rw [he, hc]) (fun hc => .inl (by rw [he, hc]; rfl)) h
theorem sg_f {v : Bool} {j : Nat} {t : Tmp} (hg : o.guard = some (j, false)) (hs : slotOf ops j = some t) (hn : noDefer o = true) (he : a.eval (.tmp t) = .bool v) (h : (!v) = true → OpR P o a w (Post T own a w f o.dst)) : StepGoal r P T ops own a w (Fct.cond (!v) o.dst f) o :=
  sg_if hg hs hn (fun hc => by rw [he, nT hc]) (fun hc => .inl (by rw [he]; cases v <;> first | rfl | cases hc)) h
theorem sg_tc {g v : Bool} {j : Nat} {t : Tmp} (hg : o.guard = some (j, true)) (hs : slotOf ops j = some t) (hn : noDefer o = true) (he : (Fct.cond g (some t) (Fct.val t (.bool v))).p own a w) (h : (g && v) = true → OpR P o a w (Post T own a w f o.dst)) : StepGoal r P T ops own a w (Fct.cond (g && v) o.dst f) o :=
  sg_if hg hs hn (fun hc => (he.1 (gL hc)).trans (by rw [gR hc])) (fun hc => by
    cases hg' : g with
    | true => exact .inl ((he.1 hg').trans (by subst hg'; simp at hc; rw [hc]; rfl))
    | false => exact .inr (he.2 hg' t rfl)) h
theorem or_val {d : Tmp} {V : Value} (hd : o.dst = some d) (h : (execOp a.eval o).run P w = .ok (.value V) w) : OpR P o a w (Post T own a w (Fct.val d V) o.dst) := by
  unfold OpR Oper.wp
  rw [h]
  exact ⟨V, rfl, own, Evo.refl _ _ _, fun a' ha => ha.1 d hd⟩
def lk (l : List (Nat × Value)) : Operand → Value
  | .tmp t => ((l.find? fun p => Nat.beq p.1 t).map (·.2)).getD undef
  | .const v => v
  | .global g => .pointer (some ⟨g, 0, none⟩)
  | .func f => .func (.func f) #[] #[]
def AllE (a : Act) : List (Nat × Value) → Prop
  | [] => True
  | p :: r => a.eval (.tmp p.1) = p.2 ∧ AllE a r
def covers (l : List (Nat × Value)) (o : Oper) : Bool :=
  (o.op.operands.toList.all fun x => match x with
    | .tmp t => l.any fun p => Nat.beq p.1 t
    | _ => true) && (match o.op with | .select .. => false | _ => true)
theorem AllE.get {l : List (Nat × Value)} (h : AllE a l) {t : Nat} (ht : (l.any fun p => Nat.beq p.1 t) = true) : a.eval (.tmp t) = lk l (.tmp t) := by
  induction l with
  | nil => simp at ht
  | cons p r ih =>
    simp only [lk, List.find?_cons]
    by_cases hp : Nat.beq p.1 t = true
    · have := Nat.eq_of_beq_eq_true hp
      simp only [hp]
      rw [← this]
      exact h.1
    · simp only [Bool.not_eq_true] at hp
      simp only [List.any_cons, hp, Bool.false_or] at ht
      simp only [hp]
      exact ih h.2 ht
theorem exec_lk {l : List (Nat × Value)} (hc : covers l o = true) (h : AllE a l) : execOp a.eval o = execOp (lk l) o := by
  simp only [covers, Bool.and_eq_true] at hc
  refine execOp_congr o ?_ ?_
  · intro cs b he
    rw [he] at hc
    simp at hc
  · intro x hx
    have := List.all_eq_true.1 hc.1 x (by simpa using hx)
    cases x with
    | tmp t => exact h.get this
    | const v => rfl
    | global g => rfl
    | func f => rfl
theorem or_k {d : Tmp} {V : Value} (l : List (Nat × Value)) (hd : o.dst = some d) (hc : covers l o = true) (hl : AllE a l) (h : (execOp (lk l) o).run P w = .ok (.value V) w) :
    OpR P o a w (Post T own a w (Fct.val d V) o.dst) := or_val hd (by rw [exec_lk hc hl]; exact h)
section
variable {d : Nat} {V : Value} {x y z : Operand} {ty : TypeId} {pos : String} {after : Array Edge} {guard : Option (Nat × Bool)}
theorem or_move (hx : a.eval x = V) : OpR P ⟨some d, .move x, ty, pos, after, guard⟩ a w (Post T own a w (Fct.val d V) (some d)) := or_val (o := ⟨some d, .move x, ty, pos, after, guard⟩) rfl (by subst hx; rfl)
theorem or_assign (hx : a.eval x = V) : OpR P ⟨some d, .assign x, ty, pos, after, guard⟩ a w (Post T own a w (Fct.val d V) (some d)) := or_val (o := ⟨some d, .assign x, ty, pos, after, guard⟩) rfl (by subst hx; rfl)
theorem or_and {c u r : Bool} (hz : a.eval z = .bool c) (hx : c = true → a.eval x = .bool u) (hy : a.eval y = .bool false) (hr : (c && u) = r) : OpR P ⟨some d, .pick z x y, ty, pos, after, guard⟩ a w (Post T own a w (Fct.val d (.bool r)) (some d)) :=
  or_val (o := ⟨some d, .pick z x y, ty, pos, after, guard⟩) rfl (by
    subst hr
    cases c with
    | true => simp [execOp, hz, hx rfl, asBool]
    | false => simp [execOp, hz, hy, asBool])
theorem or_or {c u r : Bool} (hz : a.eval z = .bool c) (hx : a.eval x = .bool true) (hy : (!c) = true → a.eval y = .bool u) (hr : (c || u) = r) : OpR P ⟨some d, .pick z x y, ty, pos, after, guard⟩ a w (Post T own a w (Fct.val d (.bool r)) (some d)) :=
  or_val (o := ⟨some d, .pick z x y, ty, pos, after, guard⟩) rfl (by
    subst hr
    cases c with
    | true => simp [execOp, hz, hx, asBool]
    | false => simp [execOp, hz, hy rfl, asBool])
variable {m n r : Int} {kd k2 : IntKind} {yt yt2 : TypeId} {b : Bool}
theorem or_add (hx : a.eval x = .int kd m) (hy : a.eval y = .int kd n) (hz : kd.wrap (m + n) = r) : OpR P ⟨some d, .binOp .add yt x y yt2, ty, pos, after, guard⟩ a w (Post T own a w (Fct.val d (.int kd r)) (some d)) :=
  or_val (o := ⟨some d, .binOp .add yt x y yt2, ty, pos, after, guard⟩) rfl (by simp only [execOp, hx, hy]; simp [go_sem, hz])
theorem or_sub (hx : a.eval x = .int kd m) (hy : a.eval y = .int kd n) (hz : kd.wrap (m - n) = r) : OpR P ⟨some d, .binOp .sub yt x y yt2, ty, pos, after, guard⟩ a w (Post T own a w (Fct.val d (.int kd r)) (some d)) :=
  or_val (o := ⟨some d, .binOp .sub yt x y yt2, ty, pos, after, guard⟩) rfl (by simp only [execOp, hx, hy]; simp [go_sem, hz])
theorem or_mul (hx : a.eval x = .int kd m) (hy : a.eval y = .int kd n) (hz : kd.wrap (m * n) = r) : OpR P ⟨some d, .binOp .mul yt x y yt2, ty, pos, after, guard⟩ a w (Post T own a w (Fct.val d (.int kd r)) (some d)) :=
  or_val (o := ⟨some d, .binOp .mul yt x y yt2, ty, pos, after, guard⟩) rfl (by simp only [execOp, hx, hy]; simp [go_sem, hz])
theorem or_lss (hx : a.eval x = .int kd m) (hy : a.eval y = .int kd n) (hb : decide (m < n) = b) : OpR P ⟨some d, .binOp .lss yt x y yt2, ty, pos, after, guard⟩ a w (Post T own a w (Fct.val d (.bool b)) (some d)) :=
  or_val (o := ⟨some d, .binOp .lss yt x y yt2, ty, pos, after, guard⟩) rfl (by subst hb; simp only [execOp, hx, hy]; simp [go_sem])
theorem or_leq (hx : a.eval x = .int kd m) (hy : a.eval y = .int kd n) (hb : decide (m ≤ n) = b) : OpR P ⟨some d, .binOp .leq yt x y yt2, ty, pos, after, guard⟩ a w (Post T own a w (Fct.val d (.bool b)) (some d)) :=
  or_val (o := ⟨some d, .binOp .leq yt x y yt2, ty, pos, after, guard⟩) rfl (by subst hb; simp only [execOp, hx, hy]; simp [go_sem])
theorem or_gtr (hx : a.eval x = .int kd m) (hy : a.eval y = .int kd n) (hb : decide (n < m) = b) : OpR P ⟨some d, .binOp .gtr yt x y yt2, ty, pos, after, guard⟩ a w (Post T own a w (Fct.val d (.bool b)) (some d)) :=
  or_val (o := ⟨some d, .binOp .gtr yt x y yt2, ty, pos, after, guard⟩) rfl (by subst hb; simp only [execOp, hx, hy]; simp [go_sem])
theorem or_geq (hx : a.eval x = .int kd m) (hy : a.eval y = .int kd n) (hb : decide (n ≤ m) = b) : OpR P ⟨some d, .binOp .geq yt x y yt2, ty, pos, after, guard⟩ a w (Post T own a w (Fct.val d (.bool b)) (some d)) :=
  or_val (o := ⟨some d, .binOp .geq yt x y yt2, ty, pos, after, guard⟩) rfl (by subst hb; simp only [execOp, hx, hy]; simp [go_sem])
theorem or_eql (hx : a.eval x = .int kd m) (hy : a.eval y = .int kd n) (hb : (m == n) = b) : OpR P ⟨some d, .binOp .eql yt x y yt2, ty, pos, after, guard⟩ a w (Post T own a w (Fct.val d (.bool b)) (some d)) :=
  or_val (o := ⟨some d, .binOp .eql yt x y yt2, ty, pos, after, guard⟩) rfl (by subst hb; simp only [execOp, hx, hy]; simp [go_sem])
theorem or_neq (hx : a.eval x = .int kd m) (hy : a.eval y = .int kd n) (hb : (m != n) = b) : OpR P ⟨some d, .binOp .neq yt x y yt2, ty, pos, after, guard⟩ a w (Post T own a w (Fct.val d (.bool b)) (some d)) :=
  or_val (o := ⟨some d, .binOp .neq yt x y yt2, ty, pos, after, guard⟩) rfl (by subst hb; simp only [execOp, hx, hy]; simp [go_sem])
theorem or_not {b' : Bool} (hx : a.eval x = .bool b) (hb : (!b) = b') : OpR P ⟨some d, .unOp .not yt x, ty, pos, after, guard⟩ a w (Post T own a w (Fct.val d (.bool b')) (some d)) :=
  or_val (o := ⟨some d, .unOp .not yt x, ty, pos, after, guard⟩) rfl (by subst hb; simp only [execOp, hx]; simp [go_sem])
end
end
def TAgg (P : Program) (t : TypeId) (n : Nat) : Prop := ∀ w : World, (isAgg t).run P w = .ok true w ∧ (sizeOf t).run P w = .ok n w
def TOne (P : Program) (t : TypeId) : Prop := ∀ w : World, (isAgg t).run P w = .ok false w
def TSize (P : Program) (t : TypeId) (n : Nat) : Prop := ∀ w : World, (sizeOf t).run P w = .ok n w
def FOff (P : Program) (t : TypeId) (i off : Nat) : Prop := ∀ (p : Addr) (w : World), (Instr.fieldAt t (.pointer (some p)) i).run P w = .ok (.pointer (some (p.add off))) w
def CF (P : Program) (f : FuncId) : Prop := ∀ (args : Array Value) (w : World), (callFunc f args).run P w = .ok (.enter f args) w
def TSlice (P : Program) (t : TypeId) (size : Nat) : Prop := ∃ e, P.underlying t = some (.slice e) ∧ TSize P e size
def CellsAt (w : World) (p : Addr) (l : List Value) : Prop := ∀ j v, l[j]? = some v → w.cell? (p.add j) = some v
def adr (A : Option Addr) : Addr := A.getD ⟨0, 0, none⟩
theorem add_add (p : Addr) (i j : Nat) : (p.add i).add j = p.add (i + j) := by
  unfold Addr.add
  by_cases hi : i = 0 <;> by_cases hj : j = 0 <;> simp [hi, hj, Nat.add_assoc]
theorem CellsAt.one {w : World} {p : Addr} {l : List Value} (h : CellsAt w p l) {j : Nat} {v : Value} (hv : l[j]? = some v) : w.cell? (p.add j) = some v := h j v hv
theorem CellsAt.zero {w : World} {p : Addr} {l : List Value} (h : CellsAt w p l) {v : Value} (hv : l[0]? = some v) : w.cell? p = some v := by have := h 0 v hv; simpa [Addr.add] using this
theorem CellsAt.part {w : World} {p : Addr} {l l' : List Value} (h : CellsAt w p l) (o : Nat) (hl : (l.drop o).take l'.length = l') : CellsAt w (p.add o) l' := by
  intro j v hv
  rw [add_add]
  refine h _ v ?_
  rw [← hl, List.getElem?_take] at hv
  split at hv
  · rw [List.getElem?_drop] at hv; exact hv
  · cases hv
theorem Blk.cells {w : World} {g : Nat} {t : TypeId} {cs : Array Value} (h : Blk w g t cs) : CellsAt w ⟨g, 0, none⟩ cs.toList := by
  intro j v hv
  have : (⟨g, 0, none⟩ : Addr).add j = ⟨g, j, none⟩ := by unfold Addr.add; split <;> simp_all
  rw [this, h.cell j]
  simpa using hv
theorem Blk.cellsFrom {w : World} {g : Nat} {t : TypeId} {cs : Array Value} (h : Blk w g t cs) (o : Nat) {l' : List Value} (hl : (cs.toList.drop o).take l'.length = l') : CellsAt w ⟨g, o, none⟩ l' := by
  have := h.cells.part o hl
  have e : (⟨g, 0, none⟩ : Addr).add o = ⟨g, o, none⟩ := by unfold Addr.add; split <;> simp_all
  rwa [e] at this
theorem Blk.at_ {w : World} {g : Nat} {t : TypeId} {cs : Array Value} (h : Blk w g t cs) (o : Nat) {v : Value} (hv : cs[o]? = some v) : w.cell? ⟨g, o, none⟩ = some v := (h.cell o).trans hv
theorem run_loadAgg {P : Program} {t : TypeId} {n : Nat} (hT : TAgg P t n) {w : World} {p : Addr} {l : List Value} (hc : CellsAt w p l) (hl : l.length = n) : (Instr.loadAt t (.pointer (some p))).run P w = .ok (.agg l.toArray) w := by
  have h := run_loadCells_list (P := P) w p l hc
  rw [hl] at h
  simp [Instr.loadAt, Instr.sureAddr, loadVar, Sem.run_bind, (hT w).1, (hT w).2, h]
theorem run_loadOne {P : Program} {t : TypeId} (hT : TOne P t) {w : World} {p : Addr} {v : Value} (hc : w.cell? p = some v) : (Instr.loadAt t (.pointer (some p))).run P w = .ok v w := by
  simp [Instr.loadAt, Instr.sureAddr, loadVar, Sem.run_bind, hT w, load, Sem.run, hc]
def BlkO (own : Own) (lab : Nat) (w : World) (g : Nat) (ty : TypeId) (cs : Array Value) : Prop := own g = lab ∧ Blk w g ty cs
theorem BlkO.evo {T : List Nat} {own own' : Own} {w w' : World} {lab g : Nat} {ty : TypeId} {cs : Array Value} (hl : lab ∉ T) (he : Evo T own own' w w') (h : BlkO own lab w g ty cs) : BlkO own' lab w' g ty cs :=
  have h1 := he.keep g h.2.lt (fun hm => by rw [h.1] at hm; exact (hl hm).elim)
  ⟨h1.1.trans h.1, h1.2.trans h.2⟩
def Fct.blk (lab t : Nat) (mk : Nat → Value) (ty : TypeId) (cs : Array Value) : Fct := Fct.mem lab t mk (fun g own w => BlkO own lab w g ty cs) BlkO.evo
def Fct.at_ (lab g : Nat) (ty : TypeId) (cs : Array Value) : Fct := Fct.here lab (fun own w => BlkO own lab w g ty cs) BlkO.evo
theorem be_ {T : List Nat} {own own' : Own} {w w' : World} {lab g : Nat} {ty : TypeId} {cs : Array Value} (he : Evo T own own' w w') (h : BlkO own lab w g ty cs) (hl : lab ∉ T := by decide) : BlkO own' lab w' g ty cs := BlkO.evo hl he h
theorem or_new {P : Program} {T : List Nat} {own : Own} {a : Act} {w : World} {o : Oper} {lab d : Nat} {t : TypeId} {cs : Array Value} {mk : Nat → Value} (l : List (Nat × Value)) (hd : o.dst = some d) (hc : covers l o = true) (hl : AllE a l)
    (h : (execOp (lk l) o).run P w = .ok (.value (mk w.heap.size)) (w.alloc (.cells cs t))) : OpR P o a w (Post T own a w (Fct.blk lab d mk t cs) o.dst) := by
  unfold OpR Oper.wp
  rw [exec_lk hc hl, h]
  exact ⟨_, rfl, mvOwn w T lab own, Evo.ofAlloc T lab own w _, fun a' ha => ⟨w.heap.size, ha.1 d hd, mvOwn_new (Nat.le_refl _), Blk.new w t cs⟩⟩
section
variable {P : Program} {T : List Nat} {own : Own} {a : Act} {w : World} {d : Nat} {V : Value} {x y z : Operand} {t ty : TypeId} {pos : String} {after : Array Edge} {guard : Option (Nat × Bool)}
theorem or_load {p : Addr} {n : Nat} {l : List Value} (hT : TAgg P t n) (hx : a.eval x = .pointer (some p)) (hc : CellsAt w p l) (hl : l.length = n) :
    OpR P ⟨some d, .load t x, ty, pos, after, guard⟩ a w (Post T own a w (Fct.val d (.agg l.toArray)) (some d)) :=
  or_val (o := ⟨some d, .load t x, ty, pos, after, guard⟩) rfl (by simp only [execOp, hx]; simp [Sem.run_bind, run_loadAgg hT hc hl])
theorem or_load1 {p : Addr} (hT : TOne P t) (hx : a.eval x = .pointer (some p)) (hc : w.cell? p = some V) :
    OpR P ⟨some d, .load t x, ty, pos, after, guard⟩ a w (Post T own a w (Fct.val d V) (some d)) :=
  or_val (o := ⟨some d, .load t x, ty, pos, after, guard⟩) rfl (by simp only [execOp, hx]; simp [Sem.run_bind, run_loadOne hT hc])
theorem or_field {p q : Addr} {i off : Nat} (hT : FOff P t i off) (hx : a.eval x = .pointer (some p)) (hq : p.add off = q) :
    OpR P ⟨some d, .fieldAddr t x i, ty, pos, after, guard⟩ a w (Post T own a w (Fct.val d (.pointer (some q))) (some d)) :=
  or_val (o := ⟨some d, .fieldAddr t x i, ty, pos, after, guard⟩) rfl (by subst hq; simp only [execOp, hx]; simp [Sem.run_bind, hT p w])
theorem grown_set (w : World) (g i : Nat) (v : Value) : w.grownBy (w.setCell ⟨g, i, none⟩ v) (some g) :=
  ⟨rfl, rfl, rfl, by simp [World.setCell], fun b _ hne => Below.heap_setCell _ _ _ _ (by simpa using hne)⟩
theorem run_storeOne {P : Program} {t : TypeId} (hT : TSize P t 1) {w : World} {g i : Nat} {ut : TypeId} {cs : Array Value} {v : Value} (hb : Blk w g ut cs) (hi : i < cs.size) (hv : v.oneCell' = true) : (Instr.storeAt t (.pointer (some ⟨g, i, none⟩)) v).run P w = .ok () (w.setCell ⟨g, i, none⟩ v) := by
  have h1 : v.cells = #[v] := by cases v <;> simp_all [Value.cells, Value.oneCell']
  have hc : w.cell? ⟨g, i, none⟩ = some cs[i] := by rw [hb.cell i]; simp [hi]
  have h0 : Addr.add ⟨g, i, none⟩ 0 = ⟨g, i, none⟩ := by simp [Addr.add]
  simp [Instr.storeAt, Instr.sureAddr, storeVar, Sem.run_bind, hT w, h1, storeCells, h0, run_store _ _ _ _ _ hv, stored, hc, hb.frozen i]
theorem or_store1 {g i lab lab2 : Nat} {ut : TypeId} {cs cs' : Array Value} {f : Fct} (hT : TSize P t 1) (hx : a.eval x = .pointer (some ⟨g, i, none⟩)) (hy : a.eval y = V) (hb : BlkO own lab w g ut cs) (hi : i < cs.size) (hv : V.oneCell' = true) (hg : lab ∈ T) (h0 : lab ≠ 0) (hcs : cs.setIfInBounds i V = cs')
    (hf : ∀ (own' : Own) (a' : Act) (w' : World), (∀ t, a'.eval (.tmp t) = a.eval (.tmp t)) → BlkO own' lab2 w' g ut cs' → f.p own' a' w') :
    OpR P ⟨none, .store t x y, ty, pos, after, guard⟩ a w (Post T own a w f none) := by
  unfold OpR Oper.wp
  have hr : (execOp a.eval ⟨none, .store t x y, ty, pos, after, guard⟩).run P w = .ok .skip (w.setCell ⟨g, i, none⟩ V) := by
    simp only [execOp, hx, hy]
    simp [Sem.run_bind, run_storeOne hT hb.2 hi hv]
  rw [hr]
  refine ⟨undef, rfl, mvOwn w T lab2 own, Evo.ofSet (by rw [hb.1]; exact hg) (by rw [hb.1]; exact h0) (grown_set w g i V), fun a' ha => hf _ a' _ (fun t => ha.2 t (by simp)) ⟨mvOwn_struck (by rw [hb.1]; exact hg) (by rw [hb.1]; exact h0), ?_⟩⟩
  rw [← hcs]
  exact hb.2.set_ i V
theorem run_storeAgg {P : Program} {t : TypeId} {w : World} {g o : Nat} {ut : TypeId} {cs l cs' : Array Value} (hT : TSize P t l.size) (hb : Blk w g ut cs) (hl : o + l.size ≤ cs.size) (hv : l.all (·.oneCell') = true)
    (hcs : (cs.toList.take o ++ l.toList ++ cs.toList.drop (o + l.size)).toArray = cs') :
    ∃ w', (Instr.storeAt t (.pointer (some ⟨g, o, none⟩)) (.agg l)).run P w = .ok () w' ∧ Blk w' g ut cs' ∧ w.grownBy w' (some g) := by
  have h := run_storeCells_at (P := P) g o ut l.toList 0 cs w hb (by simpa using hl) (fun v hv' => (Array.all_eq_true_iff_forall_mem.1 hv) v (by simpa using hv'))
  simp only [Nat.add_zero, Array.length_toList] at h
  rw [hcs] at h
  refine ⟨w.setRow g cs', ?_, setRow_heap w g cs _ ut _ hb, ⟨rfl, rfl, rfl, by simp, fun b _ hne => setRow_other w g b _ (fun e => hne (by rw [e]))⟩⟩
  simp [Instr.storeAt, Instr.sureAddr, storeVar, Sem.run_bind, hT w, Value.cells, h]
theorem or_store {g o lab lab2 : Nat} {ut : TypeId} {cs l cs' : Array Value} {f : Fct} (hT : TSize P t l.size) (hx : a.eval x = .pointer (some ⟨g, o, none⟩)) (hy : a.eval y = .agg l) (hb : BlkO own lab w g ut cs) (hl : o + l.size ≤ cs.size) (hv : l.all (·.oneCell') = true) (hg : lab ∈ T) (h0 : lab ≠ 0)
    (hcs : (cs.toList.take o ++ l.toList ++ cs.toList.drop (o + l.size)).toArray = cs')
    (hf : ∀ (own' : Own) (a' : Act) (w' : World), (∀ t, a'.eval (.tmp t) = a.eval (.tmp t)) → BlkO own' lab2 w' g ut cs' → f.p own' a' w') :
    OpR P ⟨none, .store t x y, ty, pos, after, guard⟩ a w (Post T own a w f none) := by
  obtain ⟨w', h, hb', hgr⟩ := run_storeAgg (P := P) hT hb.2 hl hv hcs
  unfold OpR Oper.wp
  have hr : (execOp a.eval ⟨none, .store t x y, ty, pos, after, guard⟩).run P w = .ok .skip w' := by
    simp only [execOp, hx, hy]
    simp [Sem.run_bind, h]
  rw [hr]
  exact ⟨undef, rfl, mvOwn w T lab2 own, Evo.ofSet (by rw [hb.1]; exact hg) (by rw [hb.1]; exact h0) hgr, fun a' ha => hf _ a' _ (fun t => ha.2 t (by simp)) ⟨mvOwn_struck (by rw [hb.1]; exact hg) (by rw [hb.1]; exact h0), hb'⟩⟩
theorem args0 : (#[] : Array Operand).map a.eval = #[] := by simp
theorem args1 {v : Value} (h : a.eval x = v) : (#[x] : Array Operand).map a.eval = #[v] := by simp [h]
theorem args2 {v u : Value} (h : a.eval x = v) (h2 : a.eval y = u) : (#[x, y] : Array Operand).map a.eval = #[v, u] := by simp [h, h2]
theorem args3 {v u s : Value} (h : a.eval x = v) (h2 : a.eval y = u) (h3 : a.eval z = s) : (#[x, y, z] : Array Operand).map a.eval = #[v, u, s] := by simp [h, h2, h3]
theorem args4 {x4 : Operand} {v u s v4 : Value} (h : a.eval x = v) (h2 : a.eval y = u) (h3 : a.eval z = s) (h4 : a.eval x4 = v4) : (#[x, y, z, x4] : Array Operand).map a.eval = #[v, u, s, v4] := by simp [h, h2, h3, h4]
theorem args5 {x4 x5 : Operand} {v u s v4 v5 : Value} (h : a.eval x = v) (h2 : a.eval y = u) (h3 : a.eval z = s) (h4 : a.eval x4 = v4) (h5 : a.eval x5 = v5) : (#[x, y, z, x4, x5] : Array Operand).map a.eval = #[v, u, s, v4, v5] := by simp [h, h2, h3, h4, h5]
theorem or_call {f : FuncId} {args : Array Operand} {ts : Array TypeId} {vs : Array Value} {dst : Option Tmp} {fc : Fct} {R : Ending → World → Prop} (hf : CF P f) (he : args.map a.eval = vs) (hc : Calls P f vs w R)
    (hR : ∀ e w', R e w' → ∃ v, e = .returned v ∧ Post T own a w fc dst v w') :
    OpR P ⟨dst, .call ⟨.value (.func f), args, ts⟩, ty, pos, after, guard⟩ a w (Post T own a w fc dst) := by
  unfold OpR Oper.wp
  have hr : (execOp a.eval ⟨dst, .call ⟨.value (.func f), args, ts⟩, ty, pos, after, guard⟩).run P w = .ok (.enter f vs) w := by
    have e : a.eval (.func f) = .func (.func f) #[] #[] := rfl
    simp only [execOp, resolve, he, e, Deferred.ofValue]
    simp [Sem.run_bind, invoke, hf vs w]
  rw [hr]
  refine hc.mono fun e w' h => ?_
  obtain ⟨v, rfl, hp⟩ := hR e w' h
  exact ⟨v, rfl, hp⟩
theorem or_callf {f : FuncId} {args : Array Operand} {ts : Array TypeId} {vs ws fi ca : Array Value} {dst : Option Tmp} {fc : Fct} {R : Ending → World → Prop} (hf : CF P f) (hx : a.eval x = .func (.func f) fi ca) (he : args.map a.eval = vs) (hw : fi ++ vs ++ ca = ws) (hc : Calls P f ws w R)
    (hR : ∀ e w', R e w' → ∃ v, e = .returned v ∧ Post T own a w fc dst v w') :
    OpR P ⟨dst, .call ⟨.value x, args, ts⟩, ty, pos, after, guard⟩ a w (Post T own a w fc dst) := by
  unfold OpR Oper.wp
  have hr : (execOp a.eval ⟨dst, .call ⟨.value x, args, ts⟩, ty, pos, after, guard⟩).run P w = .ok (.enter f ws) w := by
    simp only [execOp, resolve, he, hx, Deferred.ofValue]
    simp [Sem.run_bind, invoke, hw, hf ws w]
  rw [hr]
  refine hc.mono fun e w' h => ?_
  obtain ⟨v, rfl, hp⟩ := hR e w' h
  exact ⟨v, rfl, hp⟩
end
def back (own own' : Own) (w : World) (m : Nat → Nat) : Own := fun b => if own' b = 0 then (if b < w.heap.size then own b else 0) else m (own' b)
def forth (own : Own) (m : Nat → Nat) : Own := fun b => m (own b)
section
variable {own own' : Own} {w w' : World} {K T : List Nat} {m m' : Nat → Nat}
theorem Evo.back_ (h : Evo K (forth own m) own' w w') (hm : ∀ l, (l ∈ T → l = 0) → m l = 0 ∨ (m l ∉ K ∧ m' (m l) = l)) : Evo T own (back own own' w m') w w' :=
  ⟨h.os, h.tape, h.output, h.size, fun b hb hT => by
    rcases hm (own b) hT with h0 | ⟨h1, h2⟩
    · have hk := h.keep b hb (fun _ => h0)
      refine ⟨?_, hk.2⟩
      have : own' b = 0 := hk.1.trans h0
      simp [back, this, hb]
    · have hk := h.keep b hb (fun hx => (h1 hx).elim)
      refine ⟨?_, hk.2⟩
      have e : own' b = m (own b) := hk.1
      unfold back
      by_cases h0 : own' b = 0
      · rw [if_pos h0, if_pos hb]
      · rw [if_neg h0, e, h2]⟩
theorem Evo.back0_ (T : List Nat) (m' : Nat → Nat) (h : Evo [] (fun _ => 0) own' w w') : Evo T own (back own own' w m') w w' :=
  Evo.back_ (K := []) (m := fun _ => 0) h (fun _ _ => .inl rfl)
theorem back_new {b : Nat} (h : own' b ≠ 0) : back own own' w m' b = m' (own' b) := if_neg h
theorem BlkO.back_ {lab g : Nat} {ty : TypeId} {cs : Array Value} (h : BlkO own' lab w' g ty cs) (h0 : lab ≠ 0) : BlkO (back own own' w m') (m' lab) w' g ty cs :=
  ⟨by rw [back_new (by rw [h.1]; exact h0), h.1], h.2⟩
theorem BlkO.forth_ {lab g : Nat} {ty : TypeId} {cs : Array Value} (h : BlkO own lab w g ty cs) : BlkO (forth own m) (m lab) w g ty cs :=
  ⟨by show m (own g) = m lab; rw [h.1], h.2⟩
theorem post_val {V : Value} {d : Nat} {a : Act} : ∀ (e : Ending) (w' : World), (∃ own' : Own, e = .returned V ∧ Evo [] (fun _ => 0) own' w w') → ∃ v, e = .returned v ∧ Post T own a w (Fct.val d V) (some d) v w' :=
  fun _ _ ⟨_, he, hb⟩ => ⟨V, he, _, Evo.back0_ T (fun _ => 0) hb, fun _ ha => ha.1 d rfl⟩
end
theorem oper_wp_mono_ {P : Program} {o : Oper} {a : Act} {w : World} {K K' : Act → World → Prop} (h : o.wp P a w K (fun _ _ _ => False)) (hk : ∀ a w, K a w → K' a w) : o.wp P a w K' (fun _ _ _ => False) := oper_wp_q (Q := fun _ _ _ => False) hk h
theorem or_mono {P : Program} {T : List Nat} {own : Own} {a : Act} {w : World} {o : Oper} {f f2 : Fct} (h : OpR P o a w (Post T own a w f o.dst))
    (hf : ∀ own' a' w' v, Put a o.dst v a' → f.p own' a' w' → f2.p own' a' w') : OpR P o a w (Post T own a w f2 o.dst) :=
  oper_wp_mono_ h fun _ _ ⟨v, he, own', hev, hq⟩ => ⟨v, he, own', hev, fun a' ha => hf own' a' _ v ha (hq a' ha)⟩
def TGuard (P : Program) (t : TypeId) : Prop := ∀ (op : BinOp) (x y : Operand) (xs ys : Array Value) (w : World), (eqGuard op t x y (.agg xs) (.agg ys)).run P w = .ok () w
section
variable {P : Program} {T : List Nat} {own : Own} {a : Act} {w : World} {d : Nat} {x y : Operand} {ty t t2 : TypeId} {pos : String} {after : Array Edge} {guard : Option (Nat × Bool)} {b b' : Bool} {xs ys : Array Value}
theorem or_eqlA (hg : TGuard P t) (hx : a.eval x = .agg xs) (hy : a.eval y = .agg ys) (hr : (binOp .eql t (.agg xs) (.agg ys)).run P w = .ok (.bool b) w) (hb : b = b') : OpR P ⟨some d, .binOp .eql t x y t2, ty, pos, after, guard⟩ a w (Post T own a w (Fct.val d (.bool b')) (some d)) :=
  or_val (o := ⟨some d, .binOp .eql t x y t2, ty, pos, after, guard⟩) rfl (by subst hb; simp only [execOp, hx, hy]; simp [Sem.run_bind, hg _ _ _ _ _ _, hr])
theorem or_neqA (hg : TGuard P t) (hx : a.eval x = .agg xs) (hy : a.eval y = .agg ys) (hr : (binOp .neq t (.agg xs) (.agg ys)).run P w = .ok (.bool b) w) (hb : b = b') : OpR P ⟨some d, .binOp .neq t x y t2, ty, pos, after, guard⟩ a w (Post T own a w (Fct.val d (.bool b')) (some d)) :=
  or_val (o := ⟨some d, .binOp .neq t x y t2, ty, pos, after, guard⟩) rfl (by subst hb; simp only [execOp, hx, hy]; simp [Sem.run_bind, hg _ _ _ _ _ _, hr])
end
def RVal (P : Program) (r : ResultVar) (a : Act) (w : World) (v : Value) : Prop := match r with
  | .tmp t => a.eval (.tmp t) = v
  | .cell p t => ∃ ad, a.eval (.tmp p) = .pointer (some ad) ∧ (loadVar t ad).run P w = .ok v w
section
variable {P : Program} {a : Act} {w : World} {fn : Func}
theorem RVal.tmp_ {t : Tmp} {v : Value} (h : a.eval (.tmp t) = v) : RVal P (.tmp t) a w v := h
theorem RVal.cell_ {p : Tmp} {t : TypeId} {ad : Addr} {v : Value} (h : a.eval (.tmp p) = .pointer (some ad)) (hl : (loadVar t ad).run P w = .ok v w) : RVal P (.cell p t) a w v := ⟨ad, h, hl⟩
theorem run_loadVarAgg {t : TypeId} {n : Nat} (hT : TAgg P t n) {p : Addr} {l : List Value} (hc : CellsAt w p l) (hl : l.length = n) : (loadVar t p).run P w = .ok (.agg l.toArray) w := by
  have h := run_loadAgg (P := P) hT hc hl
  simpa [Instr.loadAt, Instr.sureAddr] using h
def rsem (a : Act) : ResultVar → Sem Value
  | .tmp t => pure (a.tmps.getD t undef)
  | .cell p t => do loadVar t (← asAddr (a.tmps.getD p undef))
theorem rval_run {r : ResultVar} {v : Value} (h : RVal P r a w v) : (rsem a r).run P w = .ok v w := by
  cases r with
  | tmp t =>
    have : a.tmps.getD t undef = v := h
    simp only [rsem, this]
    rfl
  | cell p t =>
    obtain ⟨ad, h1, h2⟩ := h
    have h1 : a.tmps.getD p undef = .pointer (some ad) := h1
    simp only [rsem, h1, asAddr, Sem.run_bind, Sem.run_pure, Result.andThen_ok, h2]
theorem results_rsem (fn : Func) (a : Act) : results fn a.tmps = (do
    let vs ← fn.results.mapM (rsem a)
    pure (if h : vs.size = 1 then vs[0] else .tuple vs)) := by
  unfold results
  congr 1
theorem results0_ (h : fn.results = #[]) : (results fn a.tmps).run P w = .ok (.tuple #[]) w := results_none h _ P w
theorem results1_ {r : ResultVar} {v : Value} (h : fn.results = #[r]) (h1 : RVal P r a w v) : (results fn a.tmps).run P w = .ok v w := by
  have e1 := rval_run h1
  simp only [results_rsem, h, List.mapM_toArray, List.mapM_cons, List.mapM_nil, map_eq_pure_bind, Sem.run_bind, e1, Result.andThen_ok, Sem.run_pure]
  rfl
theorem results2_ {r s : ResultVar} {v u : Value} (h : fn.results = #[r, s]) (h1 : RVal P r a w v) (h2 : RVal P s a w u) : (results fn a.tmps).run P w = .ok (.tuple #[v, u]) w := by
  have e1 := rval_run h1
  have e2 := rval_run h2
  simp only [results_rsem, h, List.mapM_toArray, List.mapM_cons, List.mapM_nil, map_eq_pure_bind, Sem.run_bind, e1, e2, Result.andThen_ok, Sem.run_pure]
  rfl
theorem results3_ {r s t : ResultVar} {v u x : Value} (h : fn.results = #[r, s, t]) (h1 : RVal P r a w v) (h2 : RVal P s a w u) (h3 : RVal P t a w x) : (results fn a.tmps).run P w = .ok (.tuple #[v, u, x]) w := by
  have e1 := rval_run h1
  have e2 := rval_run h2
  have e3 := rval_run h3
  simp only [results_rsem, h, List.mapM_toArray, List.mapM_cons, List.mapM_nil, map_eq_pure_bind, Sem.run_bind, e1, e2, e3, Result.andThen_ok, Sem.run_pure]
  rfl
end
section
variable {P : Program} {T : List Nat} {own : Own} {a : Act} {w : World} {d : Nat} {x y : Operand} {ty t t2 yt yt2 : TypeId} {pos : String} {after : Array Edge} {guard : Option (Nat × Bool)} {m n r : Int} {kd k2 : IntKind} {ts : Array TypeId} {u v b : Bool}
theorem or_min (hx : a.eval x = .int kd m) (hy : a.eval y = .int kd n) : OpR P ⟨some d, .call ⟨.builtin .min, #[x, y], ts⟩, ty, pos, after, guard⟩ a w (Post T own a w (Fct.val d (.int kd (mn m n))) (some d)) :=
  or_val (o := ⟨some d, .call ⟨.builtin .min, #[x, y], ts⟩, ty, pos, after, guard⟩) rfl (by
    simp only [execOp, resolve, invoke, builtin, List.map_toArray, List.map_cons, List.map_nil, hx, hy]
    simp [Sem.run_bind, show (Builtin.min_ ts ty #[.int kd m, .int kd n]).run P w = .ok (.int kd (mn m n)) w from run_min_one w ts ty kd kd m n])
theorem or_max (hx : a.eval x = .int kd m) (hy : a.eval y = .int kd n) : OpR P ⟨some d, .call ⟨.builtin .max, #[x, y], ts⟩, ty, pos, after, guard⟩ a w (Post T own a w (Fct.val d (.int kd (mx m n))) (some d)) :=
  or_val (o := ⟨some d, .call ⟨.builtin .max, #[x, y], ts⟩, ty, pos, after, guard⟩) rfl (by
    simp only [execOp, resolve, invoke, builtin, List.map_toArray, List.map_cons, List.map_nil, hx, hy]
    simp [Sem.run_bind, show (Builtin.max_ ts ty #[.int kd m, .int kd n]).run P w = .ok (.int kd (mx m n)) w from run_max_one w ts ty kd kd m n])
theorem or_eqlb (hT : P.underlying t = some .bool) (hx : a.eval x = .bool u) (hy : a.eval y = .bool v) (hb : (u == v) = b) : OpR P ⟨some d, .binOp .eql t x y t2, ty, pos, after, guard⟩ a w (Post T own a w (Fct.val d (.bool b)) (some d)) :=
  or_val (o := ⟨some d, .binOp .eql t x y t2, ty, pos, after, guard⟩) rfl (by subst hb; simp only [execOp, hx, hy]; simp [Sem.run_bind, eqGuard_at_bool, run_eql_bool w t u v hT])
theorem or_neqb (hT : P.underlying t = some .bool) (hx : a.eval x = .bool u) (hy : a.eval y = .bool v) (hb : (!(u == v)) = b) : OpR P ⟨some d, .binOp .neq t x y t2, ty, pos, after, guard⟩ a w (Post T own a w (Fct.val d (.bool b)) (some d)) :=
  or_val (o := ⟨some d, .binOp .neq t x y t2, ty, pos, after, guard⟩) rfl (by subst hb; simp only [execOp, hx, hy]; simp [Sem.run_bind, eqGuard_at_bool, run_neq_bool w t u v hT])
theorem or_quo (hx : a.eval x = .int kd m) (hy : a.eval y = .int kd n) (hr : quK kd m n = some r) : OpR P ⟨some d, .binOp .quo yt x y yt2, ty, pos, after, guard⟩ a w (Post T own a w (Fct.val d (.int kd r)) (some d)) :=
  or_val (o := ⟨some d, .binOp .quo yt x y yt2, ty, pos, after, guard⟩) rfl (by
    unfold quK at hr
    split at hr
    · cases hr
    · rename_i hn
      injection hr with hr
      subst hr
      simp only [execOp, hx, hy, eqGuard_quo, binOp_quo, Op.intDiv, hn, if_false]
      rfl)
theorem or_rem (hx : a.eval x = .int kd m) (hy : a.eval y = .int kd n) (hr : rmK m n = some r) : OpR P ⟨some d, .binOp .rem yt x y yt2, ty, pos, after, guard⟩ a w (Post T own a w (Fct.val d (.int kd r)) (some d)) :=
  or_val (o := ⟨some d, .binOp .rem yt x y yt2, ty, pos, after, guard⟩) rfl (by
    unfold rmK at hr
    split at hr
    · cases hr
    · rename_i hn
      injection hr with hr
      subst hr
      simp only [execOp, hx, hy, eqGuard_rem, binOp_rem, Op.intDiv, hn, if_false]
      rfl)
theorem or_shl (hx : a.eval x = .int kd m) (hy : a.eval y = .int k2 n) (hr : slK kd m n = some r) : OpR P ⟨some d, .binOp .shl yt x y yt2, ty, pos, after, guard⟩ a w (Post T own a w (Fct.val d (.int kd r)) (some d)) :=
  or_val (o := ⟨some d, .binOp .shl yt x y yt2, ty, pos, after, guard⟩) rfl (by
    unfold slK at hr
    split at hr
    · rename_i h
      injection hr with hr
      subst hr
      simp only [execOp, hx, hy, eqGuard_shl, binOp_shl, shift_shl kd k2 m n h.1 h.2]
      rfl
    · cases hr)
theorem or_shr (hx : a.eval x = .int kd m) (hy : a.eval y = .int k2 n) (hr : srK kd m n = some r) : OpR P ⟨some d, .binOp .shr yt x y yt2, ty, pos, after, guard⟩ a w (Post T own a w (Fct.val d (.int kd r)) (some d)) :=
  or_val (o := ⟨some d, .binOp .shr yt x y yt2, ty, pos, after, guard⟩) rfl (by
    unfold srK at hr
    split at hr
    · rename_i h
      injection hr with hr
      subst hr
      simp only [execOp, hx, hy, eqGuard_shr, binOp_shr, shift_shr kd k2 m n h.1 h.2]
      rfl
    · cases hr)
end
end Go.Proofs.Ytnmkonlfnpcoiaa
