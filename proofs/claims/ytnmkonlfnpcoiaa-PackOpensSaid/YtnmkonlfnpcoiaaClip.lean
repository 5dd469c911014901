import Derived.Test.YtnmkonlfnpcoiaaRop
import Derived.ArgAppend
namespace Go.Proofs.Ytnmkonlfnpcoiaa
open Go.RowKit
def Fct.viewF {α : Type} (L : List Nat) (d : Nat) (R : Rep α) (l : List α) : Fct := Fct.mems L d (fun B : Option Addr => .slice B l.length l.length) (fun B own w => RdO own L w R B l.length l) (fun hk he h => h.evo hk he)
section
variable {P : Program} {α : Type} {R : Rep α} {T : List Nat} {own : Own} {a : Act} {w : World} {d lab lab2 : Nat} {L L2 L3 : List Nat} {x y z : Operand} {t ty e : TypeId} {pos : String} {after : Array Edge} {guard : Option (Nat × Bool)} {A A2 : Option Addr} {c c2 : Nat} {l l' m : List α} {size bytes : Nat}
theorem run_append_full (hT : TApp P t e R.s bytes) (ho : RdO own L w R A l.length l) (hr : RdO own L2 w R A2 c2 m) (hm0 : 0 < m.length) (hb : (l.length + m.length) * bytes ≤ 140737488355328) (hb8 : 0 < bytes) (hF : R.Flat) (hTl : lab ∈ T) (h0 : lab ≠ 0) :
    ∃ A' c' w', (Builtin.append_ #[t, t] ty #[.slice A l.length l.length, .slice A2 m.length c2]).run P w = .ok (.slice A' (l ++ m).length c') w' ∧ Evo T own (mvOwn w T lab2 own) w w' ∧ RwO (mvOwn w T lab2 own) lab2 [] w' e R A' c' (l ++ m) := by
  rcases Nat.eq_zero_or_pos l.length with hz | hz
  · have hl : l = [] := List.eq_nil_of_length_eq_zero hz
    subst hl
    exact run_append_rw (lab := lab) (L := []) hT (.inl ⟨rfl, rfl⟩) h0 hr hb hb8 hTl (.inl hF)
  · obtain ⟨news, hn1, hn2⟩ := hr.2
    obtain ⟨b2, off2, rfl, _, hc2⟩ := hn2 hm0
    obtain ⟨olds, ho1, ho2⟩ := ho.2
    obtain ⟨b, off, rfl, _, hc1⟩ := ho2 hz
    have hl63 : l.length + m.length ≤ maxLen := by
      have : l.length + m.length ≤ (l.length + m.length) * bytes := Nat.le_mul_of_pos_right _ hb8
      simp only [maxLen]; omega
    have ea : ∀ (b off j : Nat), (⟨b, off, none⟩ : Addr).add j = ⟨b, off + j, none⟩ := fun b off j => by unfold Addr.add; split <;> simp_all
    obtain ⟨ht, i, z, hi, hz', hsz, hby, hzs, hpos⟩ := hT
    obtain ⟨v', w', g1, g2, g3⟩ := run_append_arg_grows (P := P) w t ty e i z R.s bytes ht hi hz' hsz hby hzs hpos ⟨b, off, none⟩ l.length l.length olds ho1.len (fun j u hu => by rw [ea]; exact hc1 j u hu) ⟨b2, off2, none⟩ m.length c2 news hn1.len (fun j u hu => by rw [ea]; exact hc2 j u hu) (by omega) hl63 hb
    have hev : Evo T own (mvOwn w T lab2 own) w w' := Evo.mv T lab2 own g3.os g3.tape g3.output g3.size fun b hb _ => g3.block b hb (by simp)
    rcases g2.2 with ⟨_, h'⟩ | ⟨g, cap, cur, hv, hge, hg, k1, k2, k3, k4⟩
    · omega
    · subst hv
      refine ⟨some ⟨g, 0, none⟩, cap, w', by rw [List.length_append]; exact g1, hev, .inr ⟨g, cur, rfl, mvOwn_new hge, hg, by rw [List.length_append]; exact k1, k2, k3, ?_⟩⟩
      rw [List.length_append, k4]
      exact RepL.append (ho1.flat hF _ _) (hn1.flat hF _ _)
theorem or_appendF {r : List α} (hT : TApp P t e R.s bytes) (hx : a.eval x = .slice A l.length l.length) (ho : RdO own L w R A l.length l) (hy : a.eval y = .slice A2 m.length c2) (hr : RdO own L2 w R A2 c2 m) (hm0 : 0 < m.length) (hl : app l m = some r) (hb8 : 0 < bytes) (hb : bytes ≤ 140000) (hF : R.Flat) (hTl : lab ∈ T) (h0 : lab ≠ 0) :
    OpR P ⟨some d, .call ⟨.builtin .append, #[x, y], #[t, t]⟩, ty, pos, after, guard⟩ a w (Post T own a w (Fct.row lab2 [] d e R r) (some d)) := by
  obtain ⟨hlen, rfl⟩ := app_some hl
  obtain ⟨A', c', w', hrun, hev, hO⟩ := run_append_full (P := P) (ty := ty) (lab := lab) (lab2 := lab2) hT ho hr hm0 (by
    have : (l.length + m.length) * bytes ≤ capB * 140000 := Nat.mul_le_mul hlen hb
    simp only [capB] at this; omega) hb8 hF hTl h0
  unfold OpR Oper.wp
  have hr' : (execOp a.eval ⟨some d, .call ⟨.builtin .append, #[x, y], #[t, t]⟩, ty, pos, after, guard⟩).run P w = .ok (.value (.slice A' (l ++ m).length c')) w' := by
    simp only [execOp, resolve, invoke, builtin, List.map_toArray, List.map_cons, List.map_nil, hx, hy]
    simp only [Sem.run_bind, Sem.run_pure, Result.andThen_ok, hrun]
  rw [hr']
  exact ⟨_, rfl, _, hev, fun a' ha => ⟨(A', c'), ha.1 d rfl, hO⟩⟩
end
end Go.Proofs.Ytnmkonlfnpcoiaa
