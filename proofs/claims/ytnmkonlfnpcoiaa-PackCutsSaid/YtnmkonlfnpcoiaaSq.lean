import Derived.Test.YtnmkonlfnpcoiaaRng
import Derived.Test.YtnmkonlfnpcoiaaFl
import Derived.Test.YtnmkonlfnpcoiaaOp
namespace Go.Proofs.Ytnmkonlfnpcoiaa
abbrev pt (g o : Nat) : Value := .pointer (some ⟨g, o, none⟩)
abbrev Zi (x : Int) : Value := .int .i64 x
abbrev sl {α : Type} (A : Option Addr) (l : List α) (c : Nat) : Value := .slice A l.length c
abbrev dv (R S : List Nat) (t : Nat) (V : Value) : OpD := ⟨R, S, [], Fct.val t V⟩
section
variable {r : Option Nat} {P : Program} {K : List Nat} {ops l : List Oper} {ds e : List OpD} {rs : List Fct} {a0 : Act} {w0 : World} {own0 : Own} {o : Oper} {d : OpD}
theorem sO (h : ∀ {own : Own} {a : Act} {w : World}, OpR P o a w (Post d.kills own a w d.fct o.dst)) (hr : Steps r P K ops ds rs a0 w0 own0 l e) (hg : o.guard = none := by exact rfl) (hn : noDefer o = true := by exact rfl) : Steps r P K ops ds rs a0 w0 own0 (o :: l) (d :: e) := sc (fun _ _ _ _ _ _ => px h hg hn) hr
theorem sF (h : ∀ {own : Own} {a : Act} {w : World}, FactsAt ds rs own a w d.reads → OpR P o a w (Post d.kills own a w d.fct o.dst)) (hr : Steps r P K ops ds rs a0 w0 own0 l e) (hg : o.guard = none := by exact rfl) (hn : noDefer o = true := by exact rfl) : Steps r P K ops ds rs a0 w0 own0 (o :: l) (d :: e) := sc (fun _ _ _ f _ _ => px (h f) hg hn) hr
theorem sS (h : ∀ {own : Own} {a : Act} {w : World}, SlotsAt a0 a d.slots → OpR P o a w (Post d.kills own a w d.fct o.dst)) (hr : Steps r P K ops ds rs a0 w0 own0 l e) (hg : o.guard = none := by exact rfl) (hn : noDefer o = true := by exact rfl) : Steps r P K ops ds rs a0 w0 own0 (o :: l) (d :: e) := sc (fun _ _ _ _ s _ => px (h s) hg hn) hr
theorem sFE (h : ∀ {own : Own} {a : Act} {w : World}, FactsAt ds rs own a w d.reads → Evo K own0 own w0 w → OpR P o a w (Post d.kills own a w d.fct o.dst)) (hr : Steps r P K ops ds rs a0 w0 own0 l e) (hg : o.guard = none := by exact rfl) (hn : noDefer o = true := by exact rfl) : Steps r P K ops ds rs a0 w0 own0 (o :: l) (d :: e) := sc (fun _ _ _ f _ hE => px (h f hE) hg hn) hr
theorem sM {t D : Nat} {V : Value} {ty : TypeId} {pos : String} {after : Array Edge} (h : a0.eval (.tmp t) = V) (hr : Steps r P K ops ds rs a0 w0 own0 l e) :
    Steps r P K ops ds rs a0 w0 own0 (⟨some D, .move (.tmp t), ty, pos, after, none⟩ :: l) (⟨[], [t], [], Fct.val D V⟩ :: e) :=
  sc (fun _ _ _ _ s _ => px (or_move (s.1.trans h)) rfl rfl) hr
theorem sA {t D j : Nat} {V : Value} {ty : TypeId} {pos : String} {after : Array Edge} (hr : Steps r P K ops ds rs a0 w0 own0 l e) (hj : fAt ds rs j = Fct.val t V := by exact rfl) :
    Steps r P K ops ds rs a0 w0 own0 (⟨some D, .assign (.tmp t), ty, pos, after, none⟩ :: l) (⟨[j], [], [], Fct.val D V⟩ :: e) :=
  sc (fun own a w f _ _ => px (or_assign (show a.eval (.tmp t) = V by have h := f.1; rw [hj] at h; exact h)) rfl rfl) hr
end
theorem kt {ops : List Oper} {a a0 : Act} {t : Nat} {V : Value} (hk : ∀ t, ((writersOf ops 0).all fun p => !Nat.beq p.2 t) = true → a.eval (.tmp t) = a0.eval (.tmp t)) (e : a0.eval (.tmp t) = V) (h : ((writersOf ops 0).all fun p => !Nat.beq p.2 t) = true := by exact rfl) : a.eval (.tmp t) = V := (hk t h).trans e
theorem gv {ds : List OpD} {rs : List Fct} {own : Own} {a : Act} {w : World} {j t : Nat} {V : Value} (h : FactsAt ds rs own a w [j]) (hj : fAt ds rs j = Fct.val t V) : a.eval (.tmp t) = V := by
  have h := h.1
  rw [hj] at h; exact h
abbrev dc (R S : List Nat) (c : Bool) (t : Nat) (V : Value) : OpD := ⟨R, S, [], Fct.cond c (some t) (Fct.val t V)⟩
section
variable {r : Option Nat} {P : Program} {K kl R S : List Nat} {ops l : List Oper} {ds e : List OpD} {rs : List Fct} {a0 : Act} {w0 : World} {own0 : Own} {o : Oper} {v g : Bool} {t i j : Nat} {f : Fct}
theorem cT (h : ∀ {own : Own} {a : Act} {w : World}, FactsAt ds rs own a w (j :: R) → SlotsAt a0 a S → Evo K own0 own w0 w → v = true → OpR P o a w (Post kl own a w f o.dst)) (hr : Steps r P K ops ds rs a0 w0 own0 l e)
    (hg : o.guard = some (i, true) := by exact rfl) (hs : slotOf ops i = some t := by exact rfl) (hn : noDefer o = true := by exact rfl) (hj : fAt ds rs j = Fct.val t (.bool v) := by exact rfl) :
    Steps r P K ops ds rs a0 w0 own0 (o :: l) (⟨j :: R, S, kl, Fct.cond v o.dst f⟩ :: e) :=
  sc (fun own a w hf hsl hE => sg_t hg hs hn (show a.eval (.tmp t) = .bool v by have h := hf.1; rw [hj] at h; exact h) fun hv => h hf hsl hE hv) hr
theorem cF (h : ∀ {own : Own} {a : Act} {w : World}, FactsAt ds rs own a w (j :: R) → SlotsAt a0 a S → Evo K own0 own w0 w → (!v) = true → OpR P o a w (Post kl own a w f o.dst)) (hr : Steps r P K ops ds rs a0 w0 own0 l e)
    (hg : o.guard = some (i, false) := by exact rfl) (hs : slotOf ops i = some t := by exact rfl) (hn : noDefer o = true := by exact rfl) (hj : fAt ds rs j = Fct.val t (.bool v) := by exact rfl) :
    Steps r P K ops ds rs a0 w0 own0 (o :: l) (⟨j :: R, S, kl, Fct.cond (!v) o.dst f⟩ :: e) :=
  sc (fun own a w hf hsl hE => sg_f hg hs hn (show a.eval (.tmp t) = .bool v by have h := hf.1; rw [hj] at h; exact h) fun hv => h hf hsl hE hv) hr
theorem cTc (h : ∀ {own : Own} {a : Act} {w : World}, FactsAt ds rs own a w (j :: R) → SlotsAt a0 a S → Evo K own0 own w0 w → (g && v) = true → OpR P o a w (Post kl own a w f o.dst)) (hr : Steps r P K ops ds rs a0 w0 own0 l e)
    (hg : o.guard = some (i, true) := by exact rfl) (hs : slotOf ops i = some t := by exact rfl) (hn : noDefer o = true := by exact rfl) (hj : fAt ds rs j = Fct.cond g (some t) (Fct.val t (.bool v)) := by exact rfl) :
    Steps r P K ops ds rs a0 w0 own0 (o :: l) (⟨j :: R, S, kl, Fct.cond (g && v) o.dst f⟩ :: e) :=
  sc (fun own a w hf hsl hE => sg_tc hg hs hn (show (Fct.cond g (some t) (Fct.val t (.bool v))).p own a w by have h := hf.1; rw [hj] at h; exact h) fun hv => h hf hsl hE hv) hr
end
section
variable {P : Program} {T : List Nat} {own own2 : Own} {a : Act} {w : World} {d : Nat} {x : Operand} {t ty bty : TypeId} {pos : String} {after : Array Edge} {guard : Option (Nat × Bool)} {lab g o n : Nat} {cs : Array Value} {V : Value}
theorem ldS {l : List Value} (hT : TAgg P t n) (hx : a.eval x = .pointer (some ⟨g, o, none⟩)) (hb : BlkO own lab w g bty cs) (hc : (cs.toList.drop o).take l.length = l := by exact rfl) (hl : l.length = n := by exact rfl) :
    OpR P ⟨some d, .load t x, ty, pos, after, guard⟩ a w (Post T own2 a w (Fct.val d (.agg l.toArray)) (some d)) := or_load hT hx (Blk.cellsFrom hb.2 o hc) hl
theorem ld1 (hT : TOne P t) (hx : a.eval x = .pointer (some ⟨g, o, none⟩)) (hb : BlkO own lab w g bty cs) (hv : cs[o]? = some V := by exact rfl) :
    OpR P ⟨some d, .load t x, ty, pos, after, guard⟩ a w (Post T own2 a w (Fct.val d V) (some d)) := or_load1 hT hx (Blk.at_ hb.2 o hv)
end
section
variable {ops : List Oper} {a a0 : Act} {T : List Nat} {own own' : Own} {w w' : World}
theorem kt2 {t0 t1 : Nat} {V0 V1 : Value} (hk : ∀ t, ((writersOf ops 0).all fun p => !Nat.beq p.2 t) = true → a.eval (.tmp t) = a0.eval (.tmp t)) (e0 : a0.eval (.tmp t0) = V0) (e1 : a0.eval (.tmp t1) = V1) (h0 : ((writersOf ops 0).all fun p => !Nat.beq p.2 t0) = true := by exact rfl) (h1 : ((writersOf ops 0).all fun p => !Nat.beq p.2 t1) = true := by exact rfl) : a.eval (.tmp t0) = V0 ∧ a.eval (.tmp t1) = V1 := ⟨(hk t0 h0).trans e0, (hk t1 h1).trans e1⟩
theorem kt3 {t0 t1 t2 : Nat} {V0 V1 V2 : Value} (hk : ∀ t, ((writersOf ops 0).all fun p => !Nat.beq p.2 t) = true → a.eval (.tmp t) = a0.eval (.tmp t)) (e0 : a0.eval (.tmp t0) = V0) (e1 : a0.eval (.tmp t1) = V1) (e2 : a0.eval (.tmp t2) = V2) (h0 : ((writersOf ops 0).all fun p => !Nat.beq p.2 t0) = true := by exact rfl) (h1 : ((writersOf ops 0).all fun p => !Nat.beq p.2 t1) = true := by exact rfl) (h2 : ((writersOf ops 0).all fun p => !Nat.beq p.2 t2) = true := by exact rfl) : a.eval (.tmp t0) = V0 ∧ a.eval (.tmp t1) = V1 ∧ a.eval (.tmp t2) = V2 := ⟨(hk t0 h0).trans e0, (hk t1 h1).trans e1, (hk t2 h2).trans e2⟩
theorem kt4 {t0 t1 t2 t3 : Nat} {V0 V1 V2 V3 : Value} (hk : ∀ t, ((writersOf ops 0).all fun p => !Nat.beq p.2 t) = true → a.eval (.tmp t) = a0.eval (.tmp t)) (e0 : a0.eval (.tmp t0) = V0) (e1 : a0.eval (.tmp t1) = V1) (e2 : a0.eval (.tmp t2) = V2) (e3 : a0.eval (.tmp t3) = V3) (h0 : ((writersOf ops 0).all fun p => !Nat.beq p.2 t0) = true := by exact rfl) (h1 : ((writersOf ops 0).all fun p => !Nat.beq p.2 t1) = true := by exact rfl) (h2 : ((writersOf ops 0).all fun p => !Nat.beq p.2 t2) = true := by exact rfl) (h3 : ((writersOf ops 0).all fun p => !Nat.beq p.2 t3) = true := by exact rfl) : a.eval (.tmp t0) = V0 ∧ a.eval (.tmp t1) = V1 ∧ a.eval (.tmp t2) = V2 ∧ a.eval (.tmp t3) = V3 := ⟨(hk t0 h0).trans e0, (hk t1 h1).trans e1, (hk t2 h2).trans e2, (hk t3 h3).trans e3⟩
theorem kt5 {t0 t1 t2 t3 t4 : Nat} {V0 V1 V2 V3 V4 : Value} (hk : ∀ t, ((writersOf ops 0).all fun p => !Nat.beq p.2 t) = true → a.eval (.tmp t) = a0.eval (.tmp t)) (e0 : a0.eval (.tmp t0) = V0) (e1 : a0.eval (.tmp t1) = V1) (e2 : a0.eval (.tmp t2) = V2) (e3 : a0.eval (.tmp t3) = V3) (e4 : a0.eval (.tmp t4) = V4) (h0 : ((writersOf ops 0).all fun p => !Nat.beq p.2 t0) = true := by exact rfl) (h1 : ((writersOf ops 0).all fun p => !Nat.beq p.2 t1) = true := by exact rfl) (h2 : ((writersOf ops 0).all fun p => !Nat.beq p.2 t2) = true := by exact rfl) (h3 : ((writersOf ops 0).all fun p => !Nat.beq p.2 t3) = true := by exact rfl) (h4 : ((writersOf ops 0).all fun p => !Nat.beq p.2 t4) = true := by exact rfl) : a.eval (.tmp t0) = V0 ∧ a.eval (.tmp t1) = V1 ∧ a.eval (.tmp t2) = V2 ∧ a.eval (.tmp t3) = V3 ∧ a.eval (.tmp t4) = V4 := ⟨(hk t0 h0).trans e0, (hk t1 h1).trans e1, (hk t2 h2).trans e2, (hk t3 h3).trans e3, (hk t4 h4).trans e4⟩
theorem kt6 {t0 t1 t2 t3 t4 t5 : Nat} {V0 V1 V2 V3 V4 V5 : Value} (hk : ∀ t, ((writersOf ops 0).all fun p => !Nat.beq p.2 t) = true → a.eval (.tmp t) = a0.eval (.tmp t)) (e0 : a0.eval (.tmp t0) = V0) (e1 : a0.eval (.tmp t1) = V1) (e2 : a0.eval (.tmp t2) = V2) (e3 : a0.eval (.tmp t3) = V3) (e4 : a0.eval (.tmp t4) = V4) (e5 : a0.eval (.tmp t5) = V5) (h0 : ((writersOf ops 0).all fun p => !Nat.beq p.2 t0) = true := by exact rfl) (h1 : ((writersOf ops 0).all fun p => !Nat.beq p.2 t1) = true := by exact rfl) (h2 : ((writersOf ops 0).all fun p => !Nat.beq p.2 t2) = true := by exact rfl) (h3 : ((writersOf ops 0).all fun p => !Nat.beq p.2 t3) = true := by exact rfl) (h4 : ((writersOf ops 0).all fun p => !Nat.beq p.2 t4) = true := by exact rfl) (h5 : ((writersOf ops 0).all fun p => !Nat.beq p.2 t5) = true := by exact rfl) : a.eval (.tmp t0) = V0 ∧ a.eval (.tmp t1) = V1 ∧ a.eval (.tmp t2) = V2 ∧ a.eval (.tmp t3) = V3 ∧ a.eval (.tmp t4) = V4 ∧ a.eval (.tmp t5) = V5 := ⟨(hk t0 h0).trans e0, (hk t1 h1).trans e1, (hk t2 h2).trans e2, (hk t3 h3).trans e3, (hk t4 h4).trans e4, (hk t5 h5).trans e5⟩
theorem kt7 {t0 t1 t2 t3 t4 t5 t6 : Nat} {V0 V1 V2 V3 V4 V5 V6 : Value} (hk : ∀ t, ((writersOf ops 0).all fun p => !Nat.beq p.2 t) = true → a.eval (.tmp t) = a0.eval (.tmp t)) (e0 : a0.eval (.tmp t0) = V0) (e1 : a0.eval (.tmp t1) = V1) (e2 : a0.eval (.tmp t2) = V2) (e3 : a0.eval (.tmp t3) = V3) (e4 : a0.eval (.tmp t4) = V4) (e5 : a0.eval (.tmp t5) = V5) (e6 : a0.eval (.tmp t6) = V6) (h0 : ((writersOf ops 0).all fun p => !Nat.beq p.2 t0) = true := by exact rfl) (h1 : ((writersOf ops 0).all fun p => !Nat.beq p.2 t1) = true := by exact rfl) (h2 : ((writersOf ops 0).all fun p => !Nat.beq p.2 t2) = true := by exact rfl) (h3 : ((writersOf ops 0).all fun p => !Nat.beq p.2 t3) = true := by exact rfl) (h4 : ((writersOf ops 0).all fun p => !Nat.beq p.2 t4) = true := by exact rfl) (h5 : ((writersOf ops 0).all fun p => !Nat.beq p.2 t5) = true := by exact rfl) (h6 : ((writersOf ops 0).all fun p => !Nat.beq p.2 t6) = true := by exact rfl) : a.eval (.tmp t0) = V0 ∧ a.eval (.tmp t1) = V1 ∧ a.eval (.tmp t2) = V2 ∧ a.eval (.tmp t3) = V3 ∧ a.eval (.tmp t4) = V4 ∧ a.eval (.tmp t5) = V5 ∧ a.eval (.tmp t6) = V6 := ⟨(hk t0 h0).trans e0, (hk t1 h1).trans e1, (hk t2 h2).trans e2, (hk t3 h3).trans e3, (hk t4 h4).trans e4, (hk t5 h5).trans e5, (hk t6 h6).trans e6⟩
theorem kt8 {t0 t1 t2 t3 t4 t5 t6 t7 : Nat} {V0 V1 V2 V3 V4 V5 V6 V7 : Value} (hk : ∀ t, ((writersOf ops 0).all fun p => !Nat.beq p.2 t) = true → a.eval (.tmp t) = a0.eval (.tmp t)) (e0 : a0.eval (.tmp t0) = V0) (e1 : a0.eval (.tmp t1) = V1) (e2 : a0.eval (.tmp t2) = V2) (e3 : a0.eval (.tmp t3) = V3) (e4 : a0.eval (.tmp t4) = V4) (e5 : a0.eval (.tmp t5) = V5) (e6 : a0.eval (.tmp t6) = V6) (e7 : a0.eval (.tmp t7) = V7) (h0 : ((writersOf ops 0).all fun p => !Nat.beq p.2 t0) = true := by exact rfl) (h1 : ((writersOf ops 0).all fun p => !Nat.beq p.2 t1) = true := by exact rfl) (h2 : ((writersOf ops 0).all fun p => !Nat.beq p.2 t2) = true := by exact rfl) (h3 : ((writersOf ops 0).all fun p => !Nat.beq p.2 t3) = true := by exact rfl) (h4 : ((writersOf ops 0).all fun p => !Nat.beq p.2 t4) = true := by exact rfl) (h5 : ((writersOf ops 0).all fun p => !Nat.beq p.2 t5) = true := by exact rfl) (h6 : ((writersOf ops 0).all fun p => !Nat.beq p.2 t6) = true := by exact rfl) (h7 : ((writersOf ops 0).all fun p => !Nat.beq p.2 t7) = true := by exact rfl) : a.eval (.tmp t0) = V0 ∧ a.eval (.tmp t1) = V1 ∧ a.eval (.tmp t2) = V2 ∧ a.eval (.tmp t3) = V3 ∧ a.eval (.tmp t4) = V4 ∧ a.eval (.tmp t5) = V5 ∧ a.eval (.tmp t6) = V6 ∧ a.eval (.tmp t7) = V7 := ⟨(hk t0 h0).trans e0, (hk t1 h1).trans e1, (hk t2 h2).trans e2, (hk t3 h3).trans e3, (hk t4 h4).trans e4, (hk t5 h5).trans e5, (hk t6 h6).trans e6, (hk t7 h7).trans e7⟩
theorem be2 {l0 g0 l1 g1 : Nat} {y0 y1 : TypeId} {c0 c1 : Array Value} (he : Evo T own own' w w') (b0 : BlkO own l0 w g0 y0 c0) (b1 : BlkO own l1 w g1 y1 c1) (h0 : l0 ∉ T := by decide) (h1 : l1 ∉ T := by decide) : BlkO own' l0 w' g0 y0 c0 ∧ BlkO own' l1 w' g1 y1 c1 := ⟨be_ he b0 h0, be_ he b1 h1⟩
theorem be3 {l0 g0 l1 g1 l2 g2 : Nat} {y0 y1 y2 : TypeId} {c0 c1 c2 : Array Value} (he : Evo T own own' w w') (b0 : BlkO own l0 w g0 y0 c0) (b1 : BlkO own l1 w g1 y1 c1) (b2 : BlkO own l2 w g2 y2 c2) (h0 : l0 ∉ T := by decide) (h1 : l1 ∉ T := by decide) (h2 : l2 ∉ T := by decide) : BlkO own' l0 w' g0 y0 c0 ∧ BlkO own' l1 w' g1 y1 c1 ∧ BlkO own' l2 w' g2 y2 c2 := ⟨be_ he b0 h0, be_ he b1 h1, be_ he b2 h2⟩
theorem be4 {l0 g0 l1 g1 l2 g2 l3 g3 : Nat} {y0 y1 y2 y3 : TypeId} {c0 c1 c2 c3 : Array Value} (he : Evo T own own' w w') (b0 : BlkO own l0 w g0 y0 c0) (b1 : BlkO own l1 w g1 y1 c1) (b2 : BlkO own l2 w g2 y2 c2) (b3 : BlkO own l3 w g3 y3 c3) (h0 : l0 ∉ T := by decide) (h1 : l1 ∉ T := by decide) (h2 : l2 ∉ T := by decide) (h3 : l3 ∉ T := by decide) : BlkO own' l0 w' g0 y0 c0 ∧ BlkO own' l1 w' g1 y1 c1 ∧ BlkO own' l2 w' g2 y2 c2 ∧ BlkO own' l3 w' g3 y3 c3 := ⟨be_ he b0 h0, be_ he b1 h1, be_ he b2 h2, be_ he b3 h3⟩
end
section
variable {r : Option Nat} {P : Program} {Q : Exit → Act → World → Prop} {y : Code} {a : Act} {w : World} {ops : List Oper} {dl : List Deferred}
theorem rq_seq {id : Nat} (n : Nat) (own0 : Own) (bs : List Nat) (ds : List OpD) (hz : a.tmps.size = n) (hdf : a.defers = dl)
    (hst : Steps r P [] ops ds [] a w own0 ops ds) (hfin : RgFin dl [] ops ds [] a w own0 n (fun a w => y.wpIn (RF r) 0 P Q a w)) (hc : rgCheck n ops ds [] bs [] = true := by kernel_rfl) :
    (Code.seq (Code.region id ops.toArray false) y).wpIn (RF r) 0 P Q a w := rg_plain_seq hc hz hdf nm_ hst hfin
theorem rq {id : Nat} (n : Nat) (own0 : Own) (bs : List Nat) (ds : List OpD) (hz : a.tmps.size = n) (hdf : a.defers = dl)
    (hst : Steps r P [] ops ds [] a w own0 ops ds) (hfin : RgFin dl [] ops ds [] a w own0 n (Q .normal)) (hc : rgCheck n ops ds [] bs [] = true := by kernel_rfl) :
    (Code.region id ops.toArray false).wpIn (RF r) 0 P Q a w := rg_plain hc hz hdf nm_ hst hfin
theorem rp_seq {id : Nat} (n : Nat) (own0 : Own) (K bs : List Nat) (ds : List OpD) (hz : a.tmps.size = n) (hdf : a.defers = dl)
    (hst : Steps r P K ops ds [] a w own0 ops ds) (hfin : RgFin dl K ops ds [] a w own0 n (fun a w => y.wpIn (RF r) 0 P Q a w)) (hc : rgCheck n ops ds [] bs K = true := by kernel_rfl) :
    (Code.seq (Code.region id ops.toArray false) y).wpIn (RF r) 0 P Q a w := rg_plain_seq hc hz hdf nm_ hst hfin
end
section
variable {P : Program} {T : List Nat} {own : Own} {a : Act} {w : World} {o : Oper}
theorem nw0 {lab d : Nat} {t : TypeId} {cs : Array Value} {mk : Nat → Value}  (hd : o.dst = some d := by exact rfl) (hc : covers [] o = true := by exact rfl) (h : (execOp (lk []) o).run P w = .ok (.value (mk w.heap.size)) (w.alloc (.cells cs t)) := by kernel_rfl) : OpR P o a w (Post T own a w (Fct.blk lab d mk t cs) o.dst) := or_new [] hd hc trivial h
theorem ok1 {d : Tmp} {V : Value} {t0 : Nat} {V0 : Value} (e0 : a.eval (.tmp t0) = V0) (hd : o.dst = some d := by exact rfl) (hc : covers [(t0, V0)] o = true := by exact rfl) (h : (execOp (lk [(t0, V0)]) o).run P w = .ok (.value V) w := by kernel_rfl) : OpR P o a w (Post T own a w (Fct.val d V) o.dst) := or_k [(t0, V0)] hd hc ⟨e0, trivial⟩ h
theorem nw1 {lab d : Nat} {t : TypeId} {cs : Array Value} {mk : Nat → Value} {t0 : Nat} {V0 : Value} (e0 : a.eval (.tmp t0) = V0) (hd : o.dst = some d := by exact rfl) (hc : covers [(t0, V0)] o = true := by exact rfl) (h : (execOp (lk [(t0, V0)]) o).run P w = .ok (.value (mk w.heap.size)) (w.alloc (.cells cs t)) := by kernel_rfl) : OpR P o a w (Post T own a w (Fct.blk lab d mk t cs) o.dst) := or_new [(t0, V0)] hd hc ⟨e0, trivial⟩ h
theorem ok2 {d : Tmp} {V : Value} {t0 t1 : Nat} {V0 V1 : Value} (e0 : a.eval (.tmp t0) = V0) (e1 : a.eval (.tmp t1) = V1) (hd : o.dst = some d := by exact rfl) (hc : covers [(t0, V0), (t1, V1)] o = true := by exact rfl) (h : (execOp (lk [(t0, V0), (t1, V1)]) o).run P w = .ok (.value V) w := by kernel_rfl) : OpR P o a w (Post T own a w (Fct.val d V) o.dst) := or_k [(t0, V0), (t1, V1)] hd hc ⟨e0, e1, trivial⟩ h
theorem ok3 {d : Tmp} {V : Value} {t0 t1 t2 : Nat} {V0 V1 V2 : Value} (e0 : a.eval (.tmp t0) = V0) (e1 : a.eval (.tmp t1) = V1) (e2 : a.eval (.tmp t2) = V2) (hd : o.dst = some d := by exact rfl) (hc : covers [(t0, V0), (t1, V1), (t2, V2)] o = true := by exact rfl) (h : (execOp (lk [(t0, V0), (t1, V1), (t2, V2)]) o).run P w = .ok (.value V) w := by kernel_rfl) : OpR P o a w (Post T own a w (Fct.val d V) o.dst) := or_k [(t0, V0), (t1, V1), (t2, V2)] hd hc ⟨e0, e1, e2, trivial⟩ h
theorem fm1 {f0 : Fct} (h0 : f0.p own a w) : ∀ f ∈ [f0], f.p own a w := by simp only [List.forall_mem_cons]; exact ⟨h0, fun _ h => nomatch h⟩
theorem fm2 {f0 f1 : Fct} (h0 : f0.p own a w) (h1 : f1.p own a w) : ∀ f ∈ [f0, f1], f.p own a w := by simp only [List.forall_mem_cons]; exact ⟨h0, h1, fun _ h => nomatch h⟩
theorem fm3 {f0 f1 f2 : Fct} (h0 : f0.p own a w) (h1 : f1.p own a w) (h2 : f2.p own a w) : ∀ f ∈ [f0, f1, f2], f.p own a w := by simp only [List.forall_mem_cons]; exact ⟨h0, h1, h2, fun _ h => nomatch h⟩
end
section
variable {r : Option Nat} {P : Program} {Q : Exit → Act → World → Prop} {y : Code} {a : Act} {w : World} {ops : List Oper} {dl : List Deferred}
theorem rr_seq {id : Nat} (n : Nat) (rs : List Fct) (own0 : Own) (K bs : List Nat) (ds : List OpD) (hz : a.tmps.size = n) (hdf : a.defers = dl) (hr : ∀ f ∈ rs, f.p own0 a w)
    (hst : Steps r P K ops ds rs a w own0 ops ds) (hfin : RgFin dl K ops ds rs a w own0 n (fun a w => y.wpIn (RF r) 0 P Q a w)) (hc : rgCheck n ops ds rs bs K = true := by kernel_rfl) :
    (Code.seq (Code.region id ops.toArray false) y).wpIn (RF r) 0 P Q a w := rg_plain_seq hc hz hdf hr hst hfin
theorem rr {id : Nat} (n : Nat) (rs : List Fct) (own0 : Own) (K bs : List Nat) (ds : List OpD) (hz : a.tmps.size = n) (hdf : a.defers = dl) (hr : ∀ f ∈ rs, f.p own0 a w)
    (hst : Steps r P K ops ds rs a w own0 ops ds) (hfin : RgFin dl K ops ds rs a w own0 n (Q .normal)) (hc : rgCheck n ops ds rs bs K = true := by kernel_rfl) :
    (Code.region id ops.toArray false).wpIn (RF r) 0 P Q a w := rg_plain hc hz hdf hr hst hfin
theorem rd_seq {id : Nat} (hm : P.follows .mixedOrders = true) (n : Nat) (rs : List Fct) (own0 : Own) (K bs : List Nat) (ds : List OpD) (hz : a.tmps.size = n) (hdf : a.defers = dl) (hr : ∀ f ∈ rs, f.p own0 a w)
    (hst : Steps r P K ops ds rs a w own0 ops ds) (hfin : RgFin dl K ops ds rs a w own0 n (fun a w => y.wpIn (RF r) 0 P Q a w)) (hc : rgCheck n ops ds rs bs K = true := by kernel_rfl) :
    (Code.seq (Code.region id ops.toArray true) y).wpIn (RF r) 0 P Q a w := rg_draw_seq hm hc hz hdf hr hst hfin
theorem rd_ {id : Nat} (hm : P.follows .mixedOrders = true) (n : Nat) (rs : List Fct) (own0 : Own) (K bs : List Nat) (ds : List OpD) (hz : a.tmps.size = n) (hdf : a.defers = dl) (hr : ∀ f ∈ rs, f.p own0 a w)
    (hst : Steps r P K ops ds rs a w own0 ops ds) (hfin : RgFin dl K ops ds rs a w own0 n (Q .normal)) (hc : rgCheck n ops ds rs bs K = true := by kernel_rfl) :
    (Code.region id ops.toArray true).wpIn (RF r) 0 P Q a w := rg_draw hm hc hz hdf hr hst hfin
end
section
variable {r : Option Nat} {P : Program} {K R S : List Nat} {ops l : List Oper} {ds e : List OpD} {rs : List Fct} {a0 : Act} {w0 : World} {own0 : Own} {t t0 D g o n lab j i q : Nat} {bty ty : TypeId} {cs : Array Value} {pos : String} {after : Array Edge} {V : Value} {c d : Bool}
theorem sL {m : List Value} (hT : TAgg P t n) (h : a0.eval (.tmp t0) = .pointer (some ⟨g, o, none⟩)) (hb : BlkO own0 lab w0 g bty cs) (hr : Steps r P K ops ds rs a0 w0 own0 l e) (hc : (cs.toList.drop o).take m.length = m := by exact rfl) (hl : m.length = n := by exact rfl) (hK : lab ∉ K := by decide) :
    Steps r P K ops ds rs a0 w0 own0 (⟨some D, .load t (.tmp t0), ty, pos, after, none⟩ :: l) (⟨[], [t0], [], Fct.val D (.agg m.toArray)⟩ :: e) :=
  sc (fun _ _ _ _ s hE => px (ldS hT (s.1.trans h) (be_ hE hb hK) hc hl) rfl rfl) hr
theorem sL1 (hT : TOne P t) (h : a0.eval (.tmp t0) = .pointer (some ⟨g, o, none⟩)) (hb : BlkO own0 lab w0 g bty cs) (hr : Steps r P K ops ds rs a0 w0 own0 l e) (hv : cs[o]? = some V := by exact rfl) (hK : lab ∉ K := by decide) :
    Steps r P K ops ds rs a0 w0 own0 (⟨some D, .load t (.tmp t0), ty, pos, after, none⟩ :: l) (⟨[], [t0], [], Fct.val D V⟩ :: e) :=
  sc (fun _ _ _ _ s hE => px (ld1 hT (s.1.trans h) (be_ hE hb hK) hv) rfl rfl) hr
theorem sG (hT : TOne P t) (hb : BlkO own0 lab w0 g bty cs) (hr : Steps r P K ops ds rs a0 w0 own0 l e) (hj : fAt ds rs j = Fct.val t0 (.pointer (some ⟨g, o, none⟩)) := by exact rfl) (hv : cs[o]? = some V := by exact rfl) (hK : lab ∉ K := by decide) :
    Steps r P K ops ds rs a0 w0 own0 (⟨some D, .load t (.tmp t0), ty, pos, after, none⟩ :: l) (⟨[j], [], [], Fct.val D V⟩ :: e) :=
  sc (fun own a w f _ hE => px (ld1 hT (show a.eval (.tmp t0) = _ by have h := f.1; rw [hj] at h; exact h) (be_ hE hb hK) hv) rfl rfl) hr
theorem cTL {m : List Value} (hT : TAgg P t n) (h : a0.eval (.tmp t0) = .pointer (some ⟨g, o, none⟩)) (hb : BlkO own0 lab w0 g bty cs) (hr : Steps r P K ops ds rs a0 w0 own0 l e) (hc : (cs.toList.drop o).take m.length = m := by exact rfl) (hl : m.length = n := by exact rfl) (hK : lab ∉ K := by decide) (hs : slotOf ops i = some q := by exact rfl) (hj : fAt ds rs j = Fct.val q (.bool c) := by exact rfl) :
    Steps r P K ops ds rs a0 w0 own0 (⟨some D, .load t (.tmp t0), ty, pos, after, some (i, true)⟩ :: l) (⟨j :: R, t0 :: S, [], Fct.cond c (some D) (Fct.val D (.agg m.toArray))⟩ :: e) :=
  cT (fun _ s hE _ => ldS hT (s.1.trans h) (be_ hE hb hK) hc hl) hr rfl hs rfl hj
theorem sV (hr : Steps r P K ops ds rs a0 w0 own0 l e) (hj : fAt ds rs j = Fct.val t V := by exact rfl) :
    Steps r P K ops ds rs a0 w0 own0 (⟨some D, .move (.tmp t), ty, pos, after, none⟩ :: l) (⟨[j], [], [], Fct.val D V⟩ :: e) :=
  sc (fun own a w f _ _ => px (or_move (show a.eval (.tmp t) = V by have h := f.1; rw [hj] at h; exact h)) rfl rfl) hr
end
abbrev P2 (p : Int × Int) : Value := .agg #[.int .i64 p.1, .int .i64 p.2]
end Go.Proofs.Ytnmkonlfnpcoiaa
