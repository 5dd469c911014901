import Derived.Test.YtnmkonlfnpcoiaaStr
import Derived.Test.YtnmkonlfnpcoiaaMore
import Derived.Test.YtnmkonlfnpcoiaaPst
import Derived.Test.YtnmkonlfnpcoiaaClip
import Derived.Laws.BytesArg
import Derived.Sort.Grow
namespace Go.Proofs.Ytnmkonlfnpcoiaa
open Go.RowKit
theorem repU8 {w : World} {S : Nat → Prop} : ∀ {cs : List Value} {l : List Int}, RepL (Rep.fl (En.int .u8)) w S cs l → cs = l.map (Value.int .u8)
  | cs, [], h => by simp [RepL] at h; simp [h]
  | cs, x :: l, h => by
    have h1 : cs.take 1 = [.int .u8 x] := h.1
    have h2 : cs.drop 1 = l.map (Value.int .u8) := repU8 h.2
    rw [← List.take_append_drop 1 cs, h1, h2]; rfl
section
variable {P : Program} {T L : List Nat} {own : Own} {a : Act} {w : World} {d : Nat} {x : Operand} {src dst e ty : TypeId} {pos : String} {after : Array Edge} {guard : Option (Nat × Bool)} {A : Option Addr} {c : Nat} {l : List Int}
theorem or_convBS (hs : P.underlying src = some (.slice e)) (he : P.underlying e = some (.int .u8)) (hd : P.underlying dst = some .string) (hx : a.eval x = .slice A l.length c) (hr : RdO own L w (Rep.fl (En.int .u8)) A c l) :
    OpR P ⟨some d, .convert src dst x, ty, pos, after, guard⟩ a w (Post T own a w (Fct.val d (.string (bsS l))) (some d)) := by
  have key : (convert src dst (.slice A l.length c)).run P w = .ok (.string (bsS l)) w := by
    cases A with
    | none =>
      have h0 : l = [] := by
        obtain ⟨_, cs, _, h2⟩ := hr
        rcases Nat.eq_zero_or_pos l.length with h | h
        · exact List.length_eq_zero_iff.1 h
        · obtain ⟨b, off, h3, _⟩ := h2 h; cases h3
      subst h0
      exact run_convert_bytes_nil w src e hs he _ _ dst hd
    | some p =>
      have hl : (loadCells p l.length).run P w = .ok (l.map (Value.int .u8)).toArray w := by
        obtain ⟨_, cs, h1, h2⟩ := hr
        have hcs := repU8 h1
        have := run_loadCells_list (P := P) w p (l.map (Value.int .u8)) (fun j v hj => by
          have hn : 0 < l.length := by
            rcases Nat.eq_zero_or_pos l.length with h | h
            · rw [List.length_eq_zero_iff.1 h] at hj; simp at hj
            · exact h
          obtain ⟨b, off, h3, _, h4⟩ := h2 hn
          injection h3 with h3
          subst h3
          have e1 : (⟨b, off, none⟩ : Addr).add j = ⟨b, off + j, none⟩ := by unfold Addr.add; split <;> simp_all
          rw [e1]
          exact h4 j v (by rw [hcs]; exact hj))
        simpa using this
      rw [run_convert_bytes_string w src dst e _ l.length c hs he hd, run_bytesToString w p l.length c l hl, foldl_push_bytes]
      simp [bsS, strOfNums, ByteArray.empty, ByteArray.emptyWithCapacity]
      rfl
  exact or_val (o := ⟨some d, .convert src dst x, ty, pos, after, guard⟩) rfl (by simp only [execOp, hx]; simp [Sem.run_bind, key])
end
theorem hm_of2 {mm bl : List (Nat × Nat)} {T K : List Nat} (h : (mm.all fun p => (T.any (Nat.beq p.1) && !Nat.beq p.1 0) || (!K.any (Nat.beq p.2) && Nat.beq (look0 bl p.2) p.1)) = true) : ∀ l, (l ∈ T → l = 0) → look0 mm l = 0 ∨ (look0 mm l ∉ K ∧ look0 bl (look0 mm l) = l) := by
  intro l hl
  induction mm with
  | nil => exact .inl rfl
  | cons p r ih =>
    simp only [List.all_cons, Bool.and_eq_true, Bool.or_eq_true] at h
    show (if Nat.beq p.1 l then p.2 else look0 r l) = 0 ∨ _
    by_cases hp : Nat.beq p.1 l = true
    · have hpl := Nat.eq_of_beq_eq_true hp
      have e : look0 (p :: r) l = p.2 := by show (if Nat.beq p.1 l then p.2 else look0 r l) = _; rw [if_pos hp]
      rw [e, if_pos hp]
      rcases h.1 with ⟨h1, h2⟩ | ⟨h1, h2⟩
      · obtain ⟨y, hy, hb⟩ := List.any_eq_true.1 h1
        have hy' := Nat.eq_of_beq_eq_true hb
        have := hl (by rw [← hpl, hy']; exact hy)
        rw [← hpl] at this
        rw [this] at h2; simp at h2
      · right
        refine ⟨fun hm => ?_, (Nat.eq_of_beq_eq_true h2).trans hpl⟩
        have : K.any (Nat.beq p.2) = true := List.any_eq_true.2 ⟨p.2, hm, by simp⟩
        rw [this] at h1; simp at h1
    · have e : look0 (p :: r) l = look0 r l := by show (if Nat.beq p.1 l then p.2 else look0 r l) = _; rw [if_neg hp]
      rw [e, if_neg hp]
      exact ih h.2
def Fct.rowF {α : Type} (lab d : Nat) (e : TypeId) (R : Rep α) (l : List α) : Fct := Fct.mems [lab] d (fun B : Option Addr => .slice B l.length l.length) (fun B own w => RwO own lab [] w e R B l.length l) (fun hk he h => RwO.evo hk he h)
section
variable {P : Program} {α : Type} {R : Rep α} {T : List Nat} {own : Own} {a : Act} {w : World} {d lab lab2 : Nat} {x : Operand} {t e ty : TypeId} {pos : String} {after : Array Edge} {guard : Option (Nat × Bool)} {A : Option Addr} {l : List α}
theorem or_litF {F : En α} {cs : Array Value} {n : Nat} {o : Oper} (h : OpR P o a w (Post T own a w (Fct.blk lab d (fun g => .slice (some ⟨g, 0, none⟩) n n) e cs) o.dst)) (hn : l.length = n) (hcs : cs.toList = enc F l) (hm : n ≤ maxLen) : OpR P o a w (Post T own a w (Fct.rowF lab d e (Rep.fl F) l) o.dst) := by
  refine or_mono h fun own' a' w' v _ hp => ?_
  obtain ⟨g, hv, hg, hb⟩ := hp
  subst hn
  have hl := RepL.len (RepL.enc F w' (fun b => At own' [] w' b ∧ b ≠ g) l)
  have hl : (enc F l).length = l.length * F.s := hl
  refine ⟨some ⟨g, 0, none⟩, hv, .inr ⟨g, cs, rfl, hg, hb, Nat.le_refl _, hm, ?_, ?_⟩⟩
  · rw [← Array.length_toList, hcs]; exact hl
  · rw [List.take_of_length_le (by rw [hcs, hl]; exact Nat.le_refl _), hcs]
    exact RepL.enc F w' _ l
theorem or_convM (hu : P.underlying t = some (.slice e)) (he : P.underlying e = some (.int .u8)) (hx : a.eval x = .slice A l.length l.length) (h : RwO own lab [] w e R A l.length l) (hT : lab ∈ T) (h0 : lab ≠ 0) (hl : 0 < l.length) :
    OpR P ⟨some d, .convert t t x, ty, pos, after, guard⟩ a w (Post T own a w (Fct.viewF [lab2] d R l) (some d)) := by
  rcases h with ⟨rfl, _⟩ | ⟨g, cur, rfl, h2, h3, h4, h5, h6, h7⟩
  · simp at hl
  have hg : w.heap[g]? = some (.cells cur e (0, 0)) := h3
  have hlt : g < w.heap.size := (Array.getElem?_eq_some_iff.1 hg).1
  have hsh : w.shape? g = some (e, cur.size) := by unfold World.shape?; rw [hg]
  have hr : (convert t t (.slice (some ⟨g, 0, none⟩) l.length l.length)).run P w = .ok (.slice (some ⟨g, 0, none⟩) l.length l.length) (w.freeze ⟨g, cur.size, none⟩ 1) := by
    simp [convert, run_underlying hu, run_underlying he, markStringish, hsh]
  have hr' : (execOp a.eval ⟨some d, .convert t t x, ty, pos, after, guard⟩).run P w = .ok (.value (.slice (some ⟨g, 0, none⟩) l.length l.length)) (w.freeze ⟨g, cur.size, none⟩ 1) := by
    simp only [execOp, hx]
    simp [Sem.run_bind, hr]
  unfold OpR Oper.wp
  rw [hr']
  have hf : w.freeze ⟨g, cur.size, none⟩ 1 = { w with heap := w.heap.modify g fun | .cells c elem (lo, hi) => .cells c elem (if lo == hi then (cur.size, cur.size + 1) else (min lo cur.size, max hi (cur.size + 1))) | o => o } := by
    unfold World.freeze; rw [if_neg (by decide)]; rfl
  rw [hf]
  have hsz : (w.heap.modify g fun | .cells c elem (lo, hi) => .cells c elem (if lo == hi then (cur.size, cur.size + 1) else (min lo cur.size, max hi (cur.size + 1))) | o => o).size = w.heap.size := Array.size_modify
  refine ⟨_, rfl, mvOwn w T lab2 own, Evo.mv T lab2 own rfl rfl rfl (Nat.le_of_eq hsz.symm) (fun b hb hn => ?_), fun a' ha => ⟨some ⟨g, 0, none⟩, ha.1 d rfl, Nat.le_refl _, cur.toList.take (l.length * R.s), ?_, fun _ => ⟨g, 0, rfl, ⟨?_, ?_⟩, fun j u hj => ?_⟩⟩⟩
  · have : g ≠ b := fun e => by subst e; rw [h2] at hn; exact h0 (hn hT)
    show (w.heap.modify g _)[b]? = _
    rw [Array.getElem?_modify, if_neg this]
  · refine RepL.loc (fun b hb => ?_) h7
    exact absurd hb.1.1 (by simp)
  · rw [mvOwn_struck (by rw [h2]; exact hT) (by rw [h2]; exact h0)]; simp
  · show g < (w.heap.modify g _).size
    rw [hsz]; exact hlt
  · have hm : (w.heap.modify g fun | .cells c elem (lo, hi) => .cells c elem (if lo == hi then (cur.size, cur.size + 1) else (min lo cur.size, max hi (cur.size + 1))) | o => o)[g]? = some (.cells cur e (cur.size, cur.size + 1)) := by
      rw [Array.getElem?_modify, if_pos rfl, hg]; rfl
    have := cell_of_row { w with heap := w.heap.modify g fun | .cells c elem (lo, hi) => .cells c elem (if lo == hi then (cur.size, cur.size + 1) else (min lo cur.size, max hi (cur.size + 1))) | o => o } g (0 + j) cur e (cur.size, cur.size + 1) hm
    rw [this, ← Array.getElem?_toList]
    rw [List.getElem?_take] at hj
    split at hj
    · rw [Nat.zero_add]; exact hj
    · cases hj
end
def Fct.andv (f : Fct) (t : Nat) (V : Value) : Fct :=
  ⟨f.labs, t :: f.deps, fun own a w => a.eval (.tmp t) = V ∧ f.p own a w, fun hk ha he h => ⟨(ha t (by simp)).trans h.1, f.st hk (fun u hu => ha u (by simp [hu])) he h.2⟩⟩
theorem or_andv {P : Program} {T : List Nat} {own : Own} {a : Act} {w : World} {o : Oper} {f : Fct} {t : Nat} {V : Value} (hne : o.dst ≠ some t) (hv : a.eval (.tmp t) = V) (h : OpR P o a w (Post T own a w f o.dst)) : OpR P o a w (Post T own a w (Fct.andv f t V) o.dst) :=
  or_mono h fun _ _ _ _ hp hf => ⟨(hp.2 t hne).trans hv, hf⟩
theorem BlkO.backN_ {La : List Nat} {own own' : Own} {w w' : World} {m' : Nat → Nat} {lab g : Nat} {ty : TypeId} {cs : Array Value} (ho : ∀ b, b < w.heap.size → own' b = inL La (own b)) (h : BlkO own' lab w' g ty cs) (h1 : 1 < lab) : BlkO (backN own own' w m') (m' lab) w' g ty cs := by
  refine ⟨?_, h.2⟩
  have hg : ¬ g < w.heap.size := fun hlt => by
    have e1 := ho g hlt
    have e2 : inL La (own g) ≤ 1 := inL_le (La := La) (own := own) g
    rw [h.1] at e1
    omega
  unfold backN
  rw [if_neg hg, h.1]
end Go.Proofs.Ytnmkonlfnpcoiaa
