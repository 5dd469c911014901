import Derived.Test.YtopnbammdeimcaaRop
import Derived.ArgAppend
namespace Go.Proofs.Ytopnbammdeimcaa
open Go.RowKit
def Fct.viewF {α : Type} (L : List Nat) (d : Nat) (R : Rep α) (l : List α) : Fct := Fct.mems L d (fun B : Option Addr => .slice B l.length l.length) (fun B own w => RdO own L w R B l.length l) (fun hk he h => h.evo hk he)
section
variable {P : Program} {α : Type} {R : Rep α} {T : List Nat} {own : Own} {a : Act} {w : World} {d lab lab2 : Nat} {L L2 L3 : List Nat} {x y z : Operand} {t ty e : TypeId} {pos : String} {after : Array Edge} {guard : Option (Nat × Bool)} {A A2 : Option Addr} {c c2 : Nat} {l l' m : List α} {size bytes : Nat}
theorem or_viewF {lo hi : Option Operand} {hi' : Operand} {bl bh : Int} (hu : P.underlying t = some (.slice e)) (hs : TSize P e R.s) (hx : a.eval x = .slice A l.length c) (hl : Bnd a lo bl 0) (hh : Bnd a hi bh l.length) (hm : Bnd a (some hi') bh c) (h : RdO own L w R A c l) (hc : cut l bl bh = some l') (hmh : hi.isSome = true) {f : Fct}
    (hf : ∀ (a' : Act) (B : Option Addr), a'.eval (.tmp d) = .slice B l'.length l'.length → RdO own L w R B l'.length l' → f.p own a' w) :
    OpR P ⟨some d, .slice t x lo hi (some hi'), ty, pos, after, guard⟩ a w (Post T own a w f (some d)) := by
  obtain ⟨h1, h2, h3, _, h5⟩ := cut_some hc
  have hlc := h.1
  unfold OpR Oper.wp
  rw [or_slice_val (e := e) hu hs hx hl hh hm h1 h2 (Int.le_refl _) (by omega) hlc (fun _ => hmh), ← h5]
  exact ⟨_, rfl, own, Evo.refl _ _ _, fun a' ha => hf a' _ (ha.1 d rfl) (by have := h.cut_ hc (m := bh.toNat) (Nat.le_refl _); rw [← h5] at this; exact this)⟩
end
end Go.Proofs.Ytopnbammdeimcaa
