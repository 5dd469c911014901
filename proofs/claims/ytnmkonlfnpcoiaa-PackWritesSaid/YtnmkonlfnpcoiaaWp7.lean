import Derived.Test.YtnmkonlfnpcoiaaWp6
import Derived.Test.YtnmkonlfnpcoiaaSp7
namespace Go.Proofs.Ytnmkonlfnpcoiaa
open Go.RowKit
set_option linter.unusedVariables false
set_option maxRecDepth 10000
theorem law27_Cut_w (w : World) (own : Own) (l1 : List ((Int × Int × Int) × (List Int))) (ak : Option Addr) (an : Nat) (A : ∀ b, own b ≤ 1) (b5 : RdO own [1] w R30 ak an l1) (r : List ((Int × Int × Int) × (List Int))) (K : law27_Cut l1 = some r) :
  Calls Try.prog 8 #[sl ak l1 an] w fun e w' => ∃ (M : Own) (x : Option Addr × Nat), e = .returned (.slice x.1 r.length x.2) ∧ Evo [] own M w w' ∧ RwO M 2 [1, 3] w' 30 R30 x.1 x.2 r := by
 refine fl_enter (n := 33) rfl rfl rfl (Nat.le_of_ble_eq_true rfl) ?_
 intro a0 Q d0 z0 a2 b6
 have cw := a2 0 _ rfl
 clear a2
 have cv : Evo [] own own w w := Evo.refl _ _ _
 refine rq_seq 33 own (bz 1) [dv [] [] 2 (.slice none 0 0)] z0 d0 ?_ ?_
 ·exact sO (or_assign rfl) <| steps_nil
 intro b7 cR cZ bQ cg bt cz a8
 have aE := kt bt cw
 have bd := Evo.step cv A a8 rfl
 refine rq_seq 33 b7 (bz 1) [dv [] [] 3 (.slice none 0 0)] cg bQ ?_ ?_
 ·exact sO (or_assign rfl) <| steps_nil
 intro b8 cS c0 bR ch bu bl a9
 have aF := kt bu aE
 have aG := gv (bl [0] rfl) rfl
 have be := Evo.step bd A a9 rfl
 refine fl_seq (fun cK bD cD => ?_)
 refine rq_seq 33 b8 (bz 1) [dv [] [] 4 (Zi 0)] ch bR ?_ ?_
 ·exact sO (or_assign rfl) <| steps_nil
 intro b9 cU c1 bS ci bv bm ba
 obtain ⟨aH, aI⟩ := kt2 bv aF aG
 have aJ := gv (bm [0] rfl) rfl
 have bf := Evo.step be A ba rfl
 refine fl_block (fun cL cC bK cE => ?_)
 refine fl_loop (body := (fun s => law27_Cut_b1 l1 s.1 s.2)) (z := r) (show loopO _ _ = _ from K) (fun (s : (List ((Int × Int × Int) × (List Int))) × Int) a wx => match s with | (q, m) => ∃ (ox : Own) (C : Option Addr) (D : Nat), a.defers = [] ∧ a.tmps.size = 33 ∧ a.eval (.tmp 0) = sl ak l1 an ∧ a.eval (.tmp 3) = sl C q D ∧ a.eval (.tmp 4) = Zi m ∧ Evo [] own ox w wx ∧ RwO ox 141 [1, 142] wx 30 R30 C D q) ?_ ?_
 ·exact ⟨b9, none, 0, bS, ci, aH, aI, aJ, bf, RwO.nil_⟩
 ·rintro ⟨q, m⟩ bO cV c2 ⟨ca, C, D, bT, ck, aa, aK, H, bb, N⟩ K cM bE bI cj
  have K : law27_Cut_b1 l1 q m = some bO := K
  refine fl_seq (fun cN bF bJ => ?_)
  obtain ⟨cf, bL, K⟩ := obind K
  refine rq_seq 33 ca [0, 0, 2, 7, 15, 31, 63, 127] [dv [] [4] 6 (Zi m), dv [] [0] 7 (sl ak l1 an), dv [1] [] 8 (Zi (l1.length : Int)), dv [0, 2] [] 9 (.bool (decide (m < (l1.length : Int)))), dv [3] [] 10 (.bool (decide (m < (l1.length : Int)))), dc [4] [4] (decide (m < (l1.length : Int))) 11 (Zi m), dc [4, 5] [] (decide (m < (l1.length : Int))) 12 (.bool (decide (m < 20))), dv [4, 6] [] 13 (.bool cf)] ck bT ?_ ?_
  ·exact sM H <| sM aa <| sF (fun f => or_len tu23 f.1 rfl) <| sF (fun f => or_lss f.1 f.2.1 rfl) <| sV <| cT (fun _ s _ _ => or_move (s.1.trans H)) <| cT (fun f _ _ hg => or_lss (f.2.1.1 hg) rfl rfl) <| sF (fun f => or_and f.1 (fun hx => f.2.1.1 hx) rfl (osome bL).symm) <| steps_nil
  intro a3 cW c3 a1 a7 bw bn aq
  obtain ⟨ab, ae, af⟩ := kt3 bw aa aK H
  have ao := gv (bn [7] rfl) rfl
  have J := Evo.step bb A aq rfl
  have F := re_ aq N
  refine fl_cond ao K (fun bP K => ?_) (fun bP K => ?_)
  ·refine fl_skip ?_
   refine bF _ _ ?_
   refine fl_seq (fun cO bG cF => ?_)
   refine fl_block (fun cP bH cH cG => ?_)
   obtain ⟨c, Z, K⟩ := obind K
   refine rp_seq 33 a3 [183] [0, 0, 3, 7, 0, 31] [dv [] [0] 16 (sl ak l1 an), dv [] [4] 17 (Zi m), dv [0, 1] [] 18 (.pointer (some ((adr ak).add ((m : Int).toNat * R30.s)))), ⟨[2], [], [], Fct.nest X30 [1] 19 (fun (y : (Unit × (Option Addr × Nat))) => .agg #[Zi c.1.1, Zi c.1.2.1, Zi c.1.2.2, .slice y.2.1 c.2.length y.2.2]) c⟩, ⟨[], [], [], Fct.blk 183 5 (fun g => pt g 0) 30 #[Zi 0, Zi 0, Zi 0, .slice none 0 0]⟩, ⟨[4, 3], [], [183], Fct.by_ [184] [5, 19] (fun l own w => ∃ p : Nat, l.getD 0 undef = pt p 0 ∧ (∀ (k : Option Addr) (d : Nat), l.getD 1 undef = .agg #[Zi c.1.1, Zi c.1.2.1, Zi c.1.2.2, sl k c.2 d] → BlkO own 184 w p 30 #[Zi c.1.1, Zi c.1.2.1, Zi c.1.2.2, sl k c.2 d])) (fun hk he h => by obtain ⟨g, e, h⟩ := h; exact ⟨g, e, fun _ _ I => BlkO.evo (not_hit hk (by decide)) he (h _ _ I)⟩)⟩] a7 a1 ?_ ?_
   ·refine sM ab <| sM af <| sF (fun f => or_index (R := R30) (l := l1) tl23 f.1 f.2.1 (RdO.some_ (RdO.evo rfl J b5) Z) Z) <| sFE (fun f hE => or_loadN X30 0 4 ta30 f.1 (Addr.add_zero' _).symm (RdO.evo rfl hE (RdO.evo rfl J b5)) Z (fun _ => rfl) (fun _ => rfl)) <| sO (nw0) ?_
    refine sc (fun own a wx hf ay hE => ?_) ?_
    ·obtain ⟨⟨p, b4, u⟩, ⟨⟨_, ⟨k, d⟩⟩, (ag : a.eval (.tmp 19) = .agg #[Zi c.1.1, Zi c.1.2.1, Zi c.1.2.2, sl k c.2 d]), ⟨-, cp⟩⟩, -⟩ := hf
     exact px (or_store (l := #[Zi c.1.1, Zi c.1.2.1, Zi c.1.2.2, sl k c.2 d]) (lab := 183) (lab2 := 184) ts30 b4 ag u (by simp) (by kernel_rfl) (mem_of rfl) (by decide) (by kernel_rfl) (fun M a' w' ha hb => ⟨_, (ha 5).trans b4, fun _ _ I => by cases (ag.symm.trans ((ha 19).symm.trans I)); exact hb⟩))
    exact steps_nil
   intro az al a5 bU cl bx bo ar
   obtain ⟨aL, aM, aN⟩ := kt3 bx ab ae af
   obtain ⟨⟨⟨_, ⟨k, d⟩⟩, (ag : al.eval (.tmp 19) = .agg #[Zi c.1.1, Zi c.1.2.1, Zi c.1.2.2, sl k c.2 d]), ⟨-, (P : RdO az [1] a5 R5 k d c.2)⟩⟩, ⟨p, (E : al.eval (.tmp 5) = pt p 0), (G : ∀ (k : Option Addr) (d : Nat), al.eval (.tmp 19) = .agg #[Zi c.1.1, Zi c.1.2.1, Zi c.1.2.2, sl k c.2 d] → BlkO az 184 a5 p 30 #[Zi c.1.1, Zi c.1.2.1, Zi c.1.2.2, sl k c.2 d])⟩, -⟩ := bo [3, 5] rfl
   have S := G _ _ ag
   have bg := Evo.step J A ar rfl
   have O := re_ ar F
   obtain ⟨t, bM, K⟩ := obind K
   refine rr_seq 33 [Fct.at_ 184 p 30 #[Zi c.1.1, Zi c.1.2.1, Zi c.1.2.2, sl k c.2 d]] az [184] [0, 1, 0, 4, 12, 28, 63, 127, 255] [dv [] [5] 20 (pt p 3), dv [0, 9] [] 21 (sl k c.2 d), dv [] [5] 22 (pt p 3), dv [2, 9] [] 23 (sl k c.2 d), dv [3] [] 24 (Zi (c.2.length : Int)), dv [4] [] 25 (Zi (mn (c.2.length : Int) 30)), ⟨[1, 5], [], [], Fct.view [1] 26 R5 t⟩, dv [] [5] 27 (pt p 3), ⟨[7, 6, 9], [], [184], Fct.by_ [190] [26] (fun l own w => ∀ (o : Option Addr) (i : Nat), l.getD 0 undef = sl o t i → BlkO own 190 w p 30 #[Zi c.1.1, Zi c.1.2.1, Zi c.1.2.2, sl o t i]) (fun hk he h _ _ I => BlkO.evo (not_hit hk (by decide)) he (h _ _ I))⟩] cl bU (fm1 S) ?_ ?_
   ·refine sS (fun s => or_field fo30_1 (s.1.trans E) (by rfl)) ?_
    refine sc (fun own a wx hf ay hE => ?_) ?_
    ·obtain ⟨bZ, (u : BlkO own 184 wx p 30 #[Zi c.1.1, Zi c.1.2.1, Zi c.1.2.2, sl k c.2 d]), -⟩ := hf
     exact px (ld1 to22 bZ u)
    refine sS (fun s => or_field fo30_1 (s.1.trans E) (by rfl)) ?_
    refine sc (fun own a wx hf ay hE => ?_) ?_
    ·obtain ⟨b0, (u : BlkO own 184 wx p 30 #[Zi c.1.1, Zi c.1.2.1, Zi c.1.2.2, sl k c.2 d]), -⟩ := hf
     exact px (ld1 to22 b0 u)
    refine sF (fun f => or_len tu22 f.1 rfl) <| sF (fun f => or_min f.1 rfl) <| sFE (fun f hE => or_view (R := R5) (l := c.2) (L := [1]) tu22 ts5 f.1 Bnd.none_ (Bnd.some_ f.2.1) Bnd.none_ (RdO.evo rfl hE P) bM (.inl rfl) (by simp)) <| sS (fun s => or_field fo30_1 (s.1.trans E) (by rfl)) ?_
    refine sc (fun own a wx hf ay hE => ?_) ?_
    ·obtain ⟨b1, ⟨⟨o, i⟩, (ah : a.eval (.tmp 26) = sl o t i), cq⟩, u, -⟩ := hf
     exact px (or_store1 (lab := 184) (lab2 := 190) ts22 b1 ah u (by simp) rfl (mem_of rfl) (by decide) rfl (fun M a' w' ha hb => fun _ _ I => by cases (ah.symm.trans ((ha 26).symm.trans I)); exact hb))
    exact steps_nil
   intro aA aZ a6 bV cm bA bp au
   obtain ⟨aO, aP, aQ, aR⟩ := kt4 bA aL aM aN E
   obtain ⟨⟨⟨o, i⟩, (ah : aZ.eval (.tmp 26) = sl o t i), (U : RdO aA [1] a6 R5 o i t)⟩, (G : ∀ (o : Option Addr) (i : Nat), aZ.eval (.tmp 26) = sl o t i → BlkO aA 190 a6 p 30 #[Zi c.1.1, Zi c.1.2.1, Zi c.1.2.2, sl o t i]), -⟩ := bp [6, 8] rfl
   have V := G _ _ ah
   have bh := Evo.step bg A au rfl
   have T := re_ au O
   obtain ⟨B, bN, K⟩ := obind K
   refine rr 33 [Fct.rowAt 141 [1, 142] 30 R30 C D q] aA [141] [0, 0, 2, 7, 15] [dv [] [3] 28 (sl C q D), dv [] [5] 29 (.agg #[Zi c.1.1, Zi c.1.2.1, Zi c.1.2.2, sl o t i]), ⟨[1], [], [], Fct.row 195 [1] 30 30 R30 [(c.1, t)]⟩, ⟨[0, 2, 5], [], [141], Fct.row 197 [1, 142, 195] 31 30 R30 B⟩, ⟨[3], [], [], Fct.rel [3, 31] (fun l => ∀ (v : Option Addr) (j : Nat), l.getD 1 undef = sl v B j → l.getD 0 undef = sl v B j)⟩] cm bV (fm1 T) ?_ ?_
   ·refine sM aP <| sL ta30 aR V <| sFE (fun f hE => or_litN (R := R30) (lab := 195) (L := [1]) (e := 30) (cs := #[Zi c.1.1, Zi c.1.2.1, Zi c.1.2.2, sl o t i]) (l := [(c.1, t)]) (n := 1) [(29, .agg #[Zi c.1.1, Zi c.1.2.1, Zi c.1.2.2, sl o t i])] rfl rfl ⟨f.1, trivial⟩ (by kernel_rfl) rfl (by decide) ⟨(Ex.iff X30).2 ⟨((), (o, i)), rfl, ⟨trivial, (RdO.evo rfl hE U)⟩⟩, rfl⟩ rfl) ?_
    refine sc (fun own a wx hf ay hE => ?_) ?_
    ·obtain ⟨b2, ⟨⟨cJ, cu⟩, b3, aD⟩, aC, -⟩ := hf
     exact px (or_append (R := R30) (lab := 141) (lab2 := 197) (L := [1, 142]) (L3 := [1, 142, 195]) tp23 b2 aC (by decide) b3 (RwO.rd aD) bN (by decide) (by decide) (mem_of rfl) (.inr ⟨rfl, rfl, by decide, by decide⟩))
    refine sc (fun own a wx hf ay hE => ?_) ?_
    ·obtain ⟨⟨⟨v, j⟩, (ai : a.eval (.tmp 31) = sl v B j), cr⟩, -⟩ := hf
     exact px (or_mono (f := Fct.val 3 (sl v B j)) (or_assign ai) (fun M a' w' v' hp h => fun _ _ I => by cases (ai.symm.trans ((hp.2 31 (by decide)).symm.trans I)); exact h))
    exact steps_nil
   intro a4 am ce bW cn bB bq bc
   obtain ⟨aS, aU⟩ := kt2 bB aO aQ
   obtain ⟨⟨⟨v, j⟩, (ai : am.eval (.tmp 31) = sl v B j), (W : RwO a4 197 [1, 142, 195] ce 30 R30 v j B)⟩, (cI : ∀ (v : Option Addr) (j : Nat), am.eval (.tmp 31) = sl v B j → am.eval (.tmp 3) = sl v B j), -⟩ := bq [3, 4] rfl
   have aT := cI _ _ ai
   have bi := Evo.step bh A bc rfl
   refine bH _ _ ?_
   refine bG _ _ ?_
   refine rq 33 a4 (bz 3) [dv [] [4] 14 (Zi m), dv [0] [] 15 (Zi (ad m 1)), dv [1] [] 4 (Zi (ad m 1))] cn bW ?_ ?_
   ·exact sM aU <| sF (fun f => or_add f.1 rfl rfl) <| sA <| steps_nil
   intro cb cX c4 bX co bC br av
   obtain ⟨aV, aW⟩ := kt2 bC aS aT
   have aX := gv (br [2] rfl) rfl
   have bj := Evo.step bi A av rfl
   have X := re_ av W
   exact bE _ _ _ K ⟨(rl [(195, 142), (197, 141)] cb), v, j, bX, co, aV, aW, aX, (Evo.rl_ bj A rfl), (RwO.more (RwO.rl_ X) (by decide))⟩
  refine fl_exit ?_
  refine bJ _ _ _ rfl ?_
  replace K := cj _ K
  refine bI _ _ _ rfl ?_
  refine bK _ _ ?_
  refine bD _ _ ?_
  refine rq_seq 33 a3 (bz 2) [dv [] [3] 32 (sl C q D), dv [0] [] 2 (sl C q D)] a7 a1 ?_ ?_
  ·exact sM ae <| sA <| steps_nil
  intro cc cY c5 bY c6 cB bs aw
  have aY := gv (bs [1] rfl) rfl
  have bk := Evo.step J A aw rfl
  have Y := re_ aw F
  refine fl_ret ?_
  obtain rfl := (osome K).symm
  exact b6 _ _ _ _ (.inl rfl) bY (results1_ rfl (RVal.tmp_ aY)) ⟨(rl [(141, 2), (142, 3)] cc), (C, D), rfl, (Evo.rl_ bk A rfl), (RwO.rl_ Y)⟩
theorem ref27_Of_w (w : World) (d : ByteArray) (l2 : List ((Int × Int × Int) × ByteArray)) (D : Option Addr) (ak : Nat) (az : RdO (fun _ => 0) [0] w R77 D ak l2) (r : (ByteArray × (List ((Int × Int × Int) × ByteArray))) × Int) (k : ref27_Of d l2 = some r) :
  Calls Try.prog 15 #[.string d, sl D l2 ak] w fun e w' => ∃ (O : Own) (x : Option Addr × Nat), e = .returned (.tuple #[.agg #[.string r.1.1, .slice x.1 r.1.2.length x.2], Zi r.2]) ∧ Evo [] (fun _ => 0) O w w' ∧ RwO O 1 [] w' 77 R77 x.1 x.2 r.1.2 := by
 refine fl_enter (n := 87) rfl rfl rfl (Nat.le_of_ble_eq_true rfl) ?_
 intro a0 Q d0 z0 bP bX
 have fz := bP 0 _ rfl
 have fA := bP 1 _ rfl
 clear bP
 have fy : Evo [] (fun _ => 0) (fun _ => 0) w w := Evo.refl _ _ _
 refine rq_seq 87 (fun _ => 0) [0, 0] [⟨[], [], [], Fct.blk 255 4 (fun g => pt g 0) 43 #[.string ByteArray.empty, .slice none 0 0]⟩, dv [] [] 5 (Zi 0)] z0 d0 ?_ ?_
 ·exact sO (nw0) <| sO (or_assign rfl) <| steps_nil
 intro cZ eu e6 eA fh dK dy dh
 obtain ⟨b8, b9⟩ := kt2 dK fz fA
 obtain ⟨⟨u, (ca : eu.eval (.tmp 4) = pt u 0), (aA : BlkO cZ 255 e6 u 43 #[.string ByteArray.empty, .slice none 0 0])⟩, -⟩ := dy [0] rfl
 have dl := es_ fy dh
 refine rp_seq 87 cZ [258] [0, 1, 0, 7] [dv [] [0] 10 (.string d), dv [0] [] 11 (.agg #[.string d, .slice none 0 0]), ⟨[], [], [], Fct.blk 258 6 (fun g => pt g 0) 43 #[.string ByteArray.empty, .slice none 0 0]⟩, ⟨[2, 1], [], [258], Fct.blk 259 6 (fun g => pt g 0) 43 #[.string d, .slice none 0 0]⟩] fh eA ?_ ?_
 ·refine sM b8 <| sF (fun f => ok1 f.1) <| sO (nw0) ?_
  refine sc (fun own a wx hf S N => ?_) ?_
  ·obtain ⟨⟨o, eP, M⟩, eN, -⟩ := hf
   exact px (or_store (l := #[.string d, .slice none 0 0]) (lab := 258) (lab2 := 259) ts43 eP eN M (by simp) (by kernel_rfl) (mem_of rfl) (by decide) (by kernel_rfl) (fun O a' w' ha hb => ⟨_, (ha 6).trans eP, hb⟩))
  exact steps_nil
 intro c0 ev e7 eB fi dL dz bK
 obtain ⟨cb, cc⟩ := kt2 dL b9 ca
 obtain ⟨⟨o, (cd : ev.eval (.tmp 6) = pt o 0), (aC : BlkO c0 259 e7 o 43 #[.string d, .slice none 0 0])⟩, -⟩ := dz [3] rfl
 have dm := es_ dl bK
 have aB := be_ bK aA
 refine fl_seq (fun fP dZ bT => ?_)
 refine rq_seq 87 c0 (bz 1) [dv [] [] 7 (Zi 0)] fi eB ?_ ?_
 ·exact sO (or_assign rfl) <| steps_nil
 intro e0 f2 gf eC fj dM dA bL
 obtain ⟨ce, cf, cg⟩ := kt3 dM cb cc cd
 have ch := gv (dA [0] rfl) rfl
 have dn := es_ dm bL
 obtain ⟨aD, aE⟩ := be2 bL aB aC
 refine fl_block (fun fQ fB ei bU => ?_)
 refine fl_loop (body := (fun s => ref27_Of_b1 d l2 s.1 s.2)) (z := r) (show loopO _ _ = _ from k) (fun (s : (List ((Int × Int × Int) × ByteArray)) × Int) a wx => match s with | (b, j) => ∃ (ox : Own) (i : Option Addr) (m : Nat), a.defers = [] ∧ a.tmps.size = 87 ∧ a.eval (.tmp 1) = sl D l2 ak ∧ a.eval (.tmp 4) = pt u 0 ∧ a.eval (.tmp 6) = pt o 0 ∧ a.eval (.tmp 7) = Zi j ∧ Evo [] (fun _ => 0) ox w wx ∧ BlkO ox 255 wx u 43 #[.string ByteArray.empty, .slice none 0 0] ∧ BlkO ox 318 wx o 43 #[.string d, sl i b m] ∧ RwO ox 322 [] wx 77 R77 i m b) ?_ ?_
 ·exact ⟨(rl [(259, 318)] e0), none, 0, eC, fj, ce, cf, cg, ch, (Evo.rl_ dn (fun _ => Nat.le_refl 0) rfl), (BlkO.rl_ aD), (BlkO.rl_ aE), RwO.nil_⟩
 ·rintro ⟨b, j⟩ b2 f3 gg ⟨e1, i, m, eD, fk, bn, ci, cj, bo, di, aG, aH, aF⟩ k fR d1 bf b1
  have k : ref27_Of_b1 d l2 b j = some b2 := k
  refine fl_seq (fun fS d2 eb => ?_)
  refine rq_seq 87 e1 [0, 0, 2, 7] [dv [] [7] 12 (Zi j), dv [] [1] 13 (sl D l2 ak), dv [1] [] 14 (Zi (l2.length : Int)), dv [0, 2] [] 15 (.bool (decide (j < (l2.length : Int))))] fk eD ?_ ?_
  ·exact sM bo <| sM bn <| sF (fun f => or_len tu41 f.1 rfl) <| sF (fun f => or_lss f.1 f.2.1 rfl) <| steps_nil
  intro c1 f4 gh cV dd dN dB a6
  obtain ⟨bp, al, bq, br⟩ := kt4 dN bn ci cj bo
  have bF := gv (dB [3] rfl) rfl
  have av := es_ di a6
  obtain ⟨W, X⟩ := be2 a6 aG aH
  have V := re_ a6 aF
  refine fl_cond bF k (fun ew k => ?_) (fun ew k => ?_)
  ·refine fl_skip ?_
   refine d2 _ _ ?_
   refine fl_seq (fun fT d3 bV => ?_)
   refine fl_block (fun fU d4 fH bW => ?_)
   refine fl_seq (fun fV d5 ec => ?_)
   obtain ⟨af, bg, k⟩ := obind k
   obtain ⟨bZ, eg, k⟩ := obind k
   refine rq_seq 87 c1 [0, 0, 3, 7, 15, 31, 63] [dv [] [1] 18 (sl D l2 ak), dv [] [7] 19 (Zi j), dv [0, 1] [] 20 (.pointer (some ((adr D).add ((j : Int).toNat * R77.s)))), dv [2] [] 21 (.pointer (some ((adr D).add ((j : Int).toNat * R77.s)))), dv [3] [] 22 (.agg #[Zi af.1.1, Zi af.1.2.1, Zi af.1.2.2]), dv [4] [] 23 (.bool bZ), dv [5] [] 24 (.bool (!bZ))] dd cV ?_ ?_
   ·exact sM bp <| sM br <| sF (fun f => or_index (R := R77) (l := l2) tl41 f.1 f.2.1 (RdO.some_ (RdO.evo rfl av az) bg) bg) <| sF (fun f => or_field fo77_0 f.1 (Addr.add_zero' _)) <| sFE (fun f N => or_load (l := [Zi af.1.1, Zi af.1.2.1, Zi af.1.2.2]) ta75 f.1 (CellsAt.head_ (RdO.cells (F := E77) (RdO.evo rfl N (RdO.evo rfl av az)) bg) rfl) rfl) <| sF (fun f => or_call cf32 (args1 f.1) (ref20_Right_w _ af.1  bZ eg) post_val) <| sF (fun f => or_not f.1 rfl) <| steps_nil
   intro c2 f5 gi cW de dO dC a7
   obtain ⟨ck, am, cl, cm⟩ := kt4 dO bp al bq br
   have bG := gv (dC [6] rfl) rfl
   have bO := es_ av a7
   obtain ⟨Y, aJ⟩ := be2 a7 W X
   have aI := re_ a7 V
   refine fl_cond bG k (fun ex k => ?_) (fun ex k => ?_)
   ·refine rr_seq 87 [Fct.at_ 255 u 43 #[.string ByteArray.empty, .slice none 0 0]] c2 [255] (bz 3) [dv [] [] 25 (.agg #[.string ByteArray.empty, .slice none 0 0]), ⟨[0, 3], [4], [255], Fct.at_ 421 u 43 #[.string ByteArray.empty, .slice none 0 0]⟩, dv [] [] 5 (Zi 5)] de cW (fm1 Y) ?_ ?_
    ·refine sO (or_k [] rfl rfl trivial (by kernel_rfl)) ?_
     refine sc (fun own a wx hf S N => ?_) ?_
     ·obtain ⟨eO, K, -⟩ := hf
      obtain ⟨b0, -⟩ := S
      exact px (or_store (l := #[.string ByteArray.empty, .slice none 0 0]) (lab := 255) (lab2 := 421) ts43 (b0.trans am) eO K (by simp) (by kernel_rfl) (mem_of rfl) (by decide) (by kernel_rfl) (fun O a' w' ha hb => hb))
     exact sO (or_assign rfl) <| steps_nil
    intro c3 f6 e8 eE gp dP bQ dj
    have cn := kt dP am
    have co := gv (bQ [2] rfl) rfl
    obtain ⟨(aK : BlkO c3 421 e8 u 43 #[.string ByteArray.empty, .slice none 0 0]), -⟩ := bQ [1] rfl
    have dp := es_ bO dj
    refine fl_ret ?_
    refine ec _ _ _ rfl ?_
    refine bW _ _ _ rfl ?_
    refine bV _ _ _ rfl ?_
    replace k := b1 _ k
    refine bf _ _ _ rfl ?_
    refine bU _ _ _ rfl ?_
    refine bT _ _ _ rfl ?_
    obtain rfl := osome k
    exact bX _ _ _ _ (.inl rfl) eE (results2_ rfl (RVal.cell_ cn (run_loadVarAgg (l := [.string ByteArray.empty, .slice none 0 0]) ta43 (Blk.cellsFrom aK.2 0 rfl) rfl)) (RVal.tmp_ co)) ⟨c3, (none, 0), rfl, dp, RwO.nil_⟩
   refine fl_skip ?_
   refine d5 _ _ ?_
   refine rq_seq 87 c2 (bz 1) [dv [] [] 8 (Zi 0)] de cW ?_ ?_
   ·exact sO (or_assign rfl) <| steps_nil
   intro e2 f7 gj eF fl dQ dD a8
   obtain ⟨cp, cq, cr, ct⟩ := kt4 dQ ck am cl cm
   have cu := gv (dD [0] rfl) rfl
   have dq := es_ bO a8
   obtain ⟨aM, aN⟩ := be2 a8 Y aJ
   have aL := re_ a8 aI
   refine fl_seq (fun fW d6 fD => ?_)
   refine fl_block (fun fX fC ej fE => ?_)
   refine fl_loop (body := (fun s => ref27_Of_b2 l2 b j s)) (z := b2) (show loopO _ _ = _ from k) (fun (c : Int) a wx => ∃ (ox : Own), a.defers = [] ∧ a.tmps.size = 87 ∧ a.eval (.tmp 1) = sl D l2 ak ∧ a.eval (.tmp 4) = pt u 0 ∧ a.eval (.tmp 6) = pt o 0 ∧ a.eval (.tmp 7) = Zi j ∧ a.eval (.tmp 8) = Zi c ∧ Evo [] (fun _ => 0) ox w wx ∧ BlkO ox 255 wx u 43 #[.string ByteArray.empty, .slice none 0 0] ∧ BlkO ox 318 wx o 43 #[.string d, sl i b m] ∧ RwO ox 322 [] wx 77 R77 i m b) ?_ ?_
   ·exact ⟨e2, eF, fl, cp, cq, cr, ct, cu, dq, aM, aN, aL⟩
   ·rintro c er f8 gk ⟨e3, eG, fn, bs, cv, an, bt, ao, a9, aO, J, I⟩ k fY d7 ed fm
    have k : ref27_Of_b2 l2 b j c = some er := k
    refine fl_seq (fun fZ d8 ee => ?_)
    obtain ⟨ag, bh, k⟩ := obind k
    obtain ⟨ah, bi, k⟩ := obind k
    obtain ⟨c9, eh, k⟩ := obind k
    obtain ⟨fc, ek, k⟩ := obind k
    refine rd_seq g_mixed 87 [] e3 [] [0, 0, 2, 6, 15, 31, 63, 127, 63, 511, 1023, 2047, 63, 63, 12351, 28735, 61503, 131071, 262143] [dv [] [8] 26 (Zi c), dv [] [6] 27 (pt o 1), dv [1] [] 28 (sl i b m), dv [2] [] 29 (Zi (b.length : Int)), dv [0, 3] [] 30 (.bool (decide (c < (b.length : Int)))), dv [4] [] 31 (.bool (decide (c < (b.length : Int)))), dc [5] [6] (decide (c < (b.length : Int))) 32 (pt o 1), dc [5, 6] [] (decide (c < (b.length : Int))) 33 (sl i b m), dc [5] [8] (decide (c < (b.length : Int))) 34 (Zi c), dc [5, 7, 8] [] (decide (c < (b.length : Int))) 35 (.pointer (some ((adr i).add ((c : Int).toNat * R77.s)))), dc [5, 9] [] (decide (c < (b.length : Int))) 36 (.pointer (some ((adr i).add ((c : Int).toNat * R77.s)))), dc [5, 10] [] (decide (c < (b.length : Int))) 37 (.agg #[Zi ag.1.1, Zi ag.1.2.1, Zi ag.1.2.2]), dc [5] [1] (decide (c < (b.length : Int))) 38 (sl D l2 ak), dc [5] [7] (decide (c < (b.length : Int))) 39 (Zi j), dc [5, 12, 13] [] (decide (c < (b.length : Int))) 40 (.pointer (some ((adr D).add ((j : Int).toNat * R77.s)))), dc [5, 14] [] (decide (c < (b.length : Int))) 41 (.pointer (some ((adr D).add ((j : Int).toNat * R77.s)))), dc [5, 15] [] (decide (c < (b.length : Int))) 42 (.agg #[Zi ah.1.1, Zi ah.1.2.1, Zi ah.1.2.2]), dc [5, 11, 16] [] (decide (c < (b.length : Int))) 43 (.bool c9), dv [5, 17] [] 44 (.bool fc)] fn eG nm_ ?_ ?_
    ·exact sM ao <| sS (fun s => or_field fo43_1 (s.1.trans an) (by rfl)) <| sG to41 J <| sF (fun f => or_len tu41 f.1 rfl) <| sF (fun f => or_lss f.1 f.2.1 rfl) <| sV <| cT (fun _ s _ _ => or_field fo43_1 (s.1.trans an) (by rfl)) <| cT (fun f _ N q => ld1 to41 (f.2.1.1 q) (be_ N J)) <| cT (fun _ s _ _ => or_move (s.1.trans ao)) <| cT (fun f _ _ q => or_index (R := R77) (l := b) tl41 (f.2.1.1 q) (f.2.2.1.1 q) (RdO.some_ (RwO.rd I) (gd_t bh q)) (gd_t bh q)) <| cT (fun f _ _ q => or_field fo77_0 (f.2.1.1 q) (Addr.add_zero' _)) <| cT (fun f _ N q => or_load (l := [Zi ag.1.1, Zi ag.1.2.1, Zi ag.1.2.2]) ta75 (f.2.1.1 q) (CellsAt.head_ (RdO.cells (F := E77) (RwO.rd (re_ N I)) (gd_t bh q)) rfl) rfl) <| cT (fun _ s _ _ => or_move (s.1.trans bs)) <| cT (fun _ s _ _ => or_move (s.1.trans bt)) <| cT (fun f _ _ q => or_index (R := R77) (l := l2) tl41 (f.2.1.1 q) (f.2.2.1.1 q) (RdO.some_ (RdO.evo rfl a9 az) (gd_t bi q)) (gd_t bi q)) <| cT (fun f _ _ q => or_field fo77_0 (f.2.1.1 q) (Addr.add_zero' _)) <| cT (fun f _ N q => or_load (l := [Zi ah.1.1, Zi ah.1.2.1, Zi ah.1.2.2]) ta75 (f.2.1.1 q) (CellsAt.head_ (RdO.cells (F := E77) (RdO.evo rfl N (RdO.evo rfl a9 az)) (gd_t bi q)) rfl) rfl) <| cT (fun f _ _ q => or_call cf33 (args2 (f.2.1.1 q) (f.2.2.1.1 q)) (ref20_Less_w _ ag.1 ah.1  c9 (gd_t eh q)) post_val) <| sF (fun f => or_and f.1 (fun hx => f.2.1.1 hx) rfl (osome ek).symm) <| steps_nil
    intro c4 f9 gl cX df dR dE ba
    obtain ⟨ap, bu, T, aq, U⟩ := kt5 dR bs cv an bt ao
    have bH := gv (dE [18] rfl) rfl
    have aw := es_ a9 ba
    obtain ⟨Z, A⟩ := be2 ba aO J
    have y := re_ ba I
    refine fl_cond bH k (fun ey k => ?_) (fun ey k => ?_)
    ·refine fl_skip ?_
     refine d8 _ _ ?_
     refine fl_block (fun f0 d9 fI fF => ?_)
     refine rq 87 c4 (bz 3) [dv [] [8] 45 (Zi c), dv [0] [] 46 (Zi (ad c 1)), dv [1] [] 8 (Zi (ad c 1))] df cX ?_ ?_
     ·exact sM U <| sF (fun f => or_add f.1 rfl rfl) <| sA <| steps_nil
     intro e4 ga gm eH fo dS dF bb
     obtain ⟨cw, cx, cy, cz⟩ := kt4 dS ap bu T aq
     have cA := gv (dF [2] rfl) rfl
     have dr := es_ aw bb
     obtain ⟨aQ, aR⟩ := be2 bb Z A
     have aP := re_ bb y
     refine d9 _ _ ?_
     exact d7 _ _ _ k ⟨e4, eH, fo, cw, cx, cy, cz, cA, dr, aQ, aR, aP⟩
    refine fl_exit ?_
    refine ee _ _ _ rfl ?_
    replace k := fm _ k
    refine ed _ _ _ rfl ?_
    refine ej _ _ ?_
    refine d6 _ _ ?_
    refine fl_seq (fun f1 ea ef => ?_)
    obtain ⟨E, bj, k⟩ := obind k
    obtain ⟨G, bk, k⟩ := obind k
    obtain ⟨fd, el, k⟩ := obind k
    refine rd_seq g_mixed 87 [] c4 [] [0, 0, 2, 6, 15, 31, 63, 127, 63, 511, 1023, 2047, 63, 63, 12351, 28735, 61503, 131071, 262143] [dv [] [8] 47 (Zi c), dv [] [6] 48 (pt o 1), dv [1] [] 49 (sl i b m), dv [2] [] 50 (Zi (b.length : Int)), dv [0, 3] [] 51 (.bool (decide (c < (b.length : Int)))), dv [4] [] 52 (.bool (decide (c < (b.length : Int)))), dc [5] [6] (decide (c < (b.length : Int))) 53 (pt o 1), dc [5, 6] [] (decide (c < (b.length : Int))) 54 (sl i b m), dc [5] [8] (decide (c < (b.length : Int))) 55 (Zi c), dc [5, 7, 8] [] (decide (c < (b.length : Int))) 56 (.pointer (some ((adr i).add ((c : Int).toNat * R77.s)))), dc [5, 9] [] (decide (c < (b.length : Int))) 57 (.pointer (some ((adr i).add ((c : Int).toNat * R77.s)))), dc [5, 10] [] (decide (c < (b.length : Int))) 58 (.agg #[Zi E.1.1, Zi E.1.2.1, Zi E.1.2.2]), dc [5] [1] (decide (c < (b.length : Int))) 59 (sl D l2 ak), dc [5] [7] (decide (c < (b.length : Int))) 60 (Zi j), dc [5, 12, 13] [] (decide (c < (b.length : Int))) 61 (.pointer (some ((adr D).add ((j : Int).toNat * R77.s)))), dc [5, 14] [] (decide (c < (b.length : Int))) 62 (.pointer (some ((adr D).add ((j : Int).toNat * R77.s)))), dc [5, 15] [] (decide (c < (b.length : Int))) 63 (.agg #[Zi G.1.1, Zi G.1.2.1, Zi G.1.2.2]), dc [5, 11, 16] [] (decide (c < (b.length : Int))) 64 (.bool (decide (E.1 = G.1))), dv [5, 17] [] 65 (.bool fd)] df cX nm_ ?_ ?_
    ·exact sM U <| sS (fun s => or_field fo43_1 (s.1.trans T) (by rfl)) <| sG to41 A <| sF (fun f => or_len tu41 f.1 rfl) <| sF (fun f => or_lss f.1 f.2.1 rfl) <| sV <| cT (fun _ s _ _ => or_field fo43_1 (s.1.trans T) (by rfl)) <| cT (fun f _ N q => ld1 to41 (f.2.1.1 q) (be_ N A)) <| cT (fun _ s _ _ => or_move (s.1.trans U)) <| cT (fun f _ _ q => or_index (R := R77) (l := b) tl41 (f.2.1.1 q) (f.2.2.1.1 q) (RdO.some_ (RwO.rd y) (gd_t bj q)) (gd_t bj q)) <| cT (fun f _ _ q => or_field fo77_0 (f.2.1.1 q) (Addr.add_zero' _)) <| cT (fun f _ N q => or_load (l := [Zi E.1.1, Zi E.1.2.1, Zi E.1.2.2]) ta75 (f.2.1.1 q) (CellsAt.head_ (RdO.cells (F := E77) (RwO.rd (re_ N y)) (gd_t bj q)) rfl) rfl) <| cT (fun _ s _ _ => or_move (s.1.trans ap)) <| cT (fun _ s _ _ => or_move (s.1.trans aq)) <| cT (fun f _ _ q => or_index (R := R77) (l := l2) tl41 (f.2.1.1 q) (f.2.2.1.1 q) (RdO.some_ (RdO.evo rfl aw az) (gd_t bk q)) (gd_t bk q)) <| cT (fun f _ _ q => or_field fo77_0 (f.2.1.1 q) (Addr.add_zero' _)) <| cT (fun f _ N q => or_load (l := [Zi G.1.1, Zi G.1.2.1, Zi G.1.2.2]) ta75 (f.2.1.1 q) (CellsAt.head_ (RdO.cells (F := E77) (RdO.evo rfl N (RdO.evo rfl aw az)) (gd_t bk q)) rfl) rfl) <| cT (fun f _ _ q => or_eqlA sg75 (f.2.1.1 q) (f.2.2.1.1 q) (se75 E.1.1 E.1.2.1 E.1.2.2 G.1.1 G.1.2.1 G.1.2.2 _) rfl) <| sF (fun f => or_and f.1 (fun hx => f.2.1.1 hx) rfl (osome el).symm) <| steps_nil
    intro c5 gb gn cY dg dT dG bc
    obtain ⟨bv, ar, bw, bx, bA⟩ := kt5 dT ap bu T aq U
    have bI := gv (dG [18] rfl) rfl
    have ax := es_ aw bc
    obtain ⟨ab, ae⟩ := be2 bc Z A
    have aa := re_ bc y
    refine fl_cond bI k (fun ez k => ?_) (fun ez k => ?_)
    ·refine rr_seq 87 [Fct.at_ 255 u 43 #[.string ByteArray.empty, .slice none 0 0]] c5 [255] (bz 3) [dv [] [] 66 (.agg #[.string ByteArray.empty, .slice none 0 0]), ⟨[0, 3], [4], [255], Fct.at_ 464 u 43 #[.string ByteArray.empty, .slice none 0 0]⟩, dv [] [] 5 (Zi 8)] dg cY (fm1 ab) ?_ ?_
     ·refine sO (or_k [] rfl rfl trivial (by kernel_rfl)) ?_
      refine sc (fun own a wx hf S N => ?_) ?_
      ·obtain ⟨eQ, K, -⟩ := hf
       obtain ⟨b0, -⟩ := S
       exact px (or_store (l := #[.string ByteArray.empty, .slice none 0 0]) (lab := 255) (lab2 := 464) ts43 (b0.trans ar) eQ K (by simp) (by kernel_rfl) (mem_of rfl) (by decide) (by kernel_rfl) (fun O a' w' ha hb => hb))
      exact sO (or_assign rfl) <| steps_nil
     intro c6 gc e9 eI gq dU bR dk
     have cB := kt dU ar
     have cC := gv (bR [2] rfl) rfl
     obtain ⟨(aS : BlkO c6 464 e9 u 43 #[.string ByteArray.empty, .slice none 0 0]), -⟩ := bR [1] rfl
     have ds := es_ ax dk
     refine fl_ret ?_
     refine ef _ _ _ rfl ?_
     refine bW _ _ _ rfl ?_
     refine bV _ _ _ rfl ?_
     replace k := b1 _ k
     refine bf _ _ _ rfl ?_
     refine bU _ _ _ rfl ?_
     refine bT _ _ _ rfl ?_
     obtain rfl := osome k
     exact bX _ _ _ _ (.inl rfl) eI (results2_ rfl (RVal.cell_ cB (run_loadVarAgg (l := [.string ByteArray.empty, .slice none 0 0]) ta43 (Blk.cellsFrom aS.2 0 rfl) rfl)) (RVal.tmp_ cC)) ⟨c6, (none, 0), rfl, ds, RwO.nil_⟩
    refine fl_skip ?_
    refine ea _ _ ?_
    obtain ⟨fe, em, k⟩ := obind k
    obtain ⟨ff, en, k⟩ := obind k
    obtain ⟨H, bl, k⟩ := obind k
    obtain ⟨C, eo, k⟩ := obind k
    refine rd_seq g_mixed 87 [] c5 [467, 471] [0, 0, 2, 0, 14, 31, 0, 0, 192, 448, 960, 2047, 4095] [⟨[], [], [], Fct.row 467 [] 67 77 R77 ([] : List ((Int × Int × Int) × ByteArray))⟩, dv [] [6] 68 (pt o 1), dv [1] [] 69 (sl i b m), dv [] [8] 70 (Zi c), ⟨[2, 3], [], [], Fct.view [322] 71 R77 fe⟩, ⟨[0, 4], [], [467], Fct.row 471 [] 72 77 R77 ff⟩, dv [] [1] 73 (sl D l2 ak), dv [] [7] 74 (Zi j), dv [6, 7] [] 75 (.pointer (some ((adr D).add ((j : Int).toNat * R77.s)))), dv [8] [] 76 (.agg #[Zi H.1.1, Zi H.1.2.1, Zi H.1.2.2, .string H.2]), ⟨[9], [], [], Fct.row 475 [] 77 77 R77 [H]⟩, ⟨[5, 10], [], [471], Fct.row 477 [] 78 77 R77 C⟩, ⟨[11], [], [], Fct.rel [9, 78] (fun l => ∀ (v : Option Addr) (p : Nat), l.getD 1 undef = sl v C p → l.getD 0 undef = sl v C p)⟩] dg cY nm_ ?_ ?_
    ·refine sO (or_lit (lab := 467) (e := 77) (cs := #[]) (F := E77) (nw0) rfl rfl (show 0 ≤ maxLen by decide)) <| sS (fun s => or_field fo43_1 (s.1.trans bw) (by rfl)) <| sG to41 ae <| sM bA <| sFE (fun f N => or_view (R := R77) (l := b) (L := [322]) tu41 ts77 f.1 Bnd.none_ (Bnd.some_ f.2.1) Bnd.none_ (RwO.rd (re_ N aa)) em (.inl rfl) (by simp)) ?_
     refine sc (fun own a wx hf S N => ?_) ?_
     ·obtain ⟨⟨⟨fK, ft⟩, eR, b3⟩, ⟨⟨fL, fu⟩, eS, b4⟩, -⟩ := hf
      exact px (or_append (R := R77) (lab := 467) (lab2 := 471) (L := []) (L3 := []) tp41 eR b3 (by decide) eS b4 en (by decide) (by decide) (mem_of rfl) (.inl (Rep.fl_flat _)))
     refine sM bv <| sM bx <| sF (fun f => or_index (R := R77) (l := l2) tl41 f.1 f.2.1 (RdO.some_ (RdO.evo rfl ax az) bl) bl) <| sFE (fun f N => or_load (l := E77.f H) ta77 f.1 (RdO.cells (F := E77) (RdO.evo rfl N (RdO.evo rfl ax az)) bl) rfl) <| sF (fun f => or_lit (lab := 475) (e := 77) (cs := #[Zi H.1.1, Zi H.1.2.1, Zi H.1.2.2, .string H.2]) (F := E77) (nw1 f.1) rfl rfl (show 1 ≤ maxLen by decide)) ?_
     refine sc (fun own a wx hf S N => ?_) ?_
     ·obtain ⟨⟨⟨fM, fv⟩, eT, b5⟩, ⟨⟨fN, fw⟩, eU, b6⟩, -⟩ := hf
      exact px (or_append (R := R77) (lab := 471) (lab2 := 477) (L := []) (L3 := []) tp41 eT b5 (by decide) eU (RwO.rd b6) eo (by decide) (by decide) (mem_of rfl) (.inl (Rep.fl_flat _)))
     refine sc (fun own a wx hf S N => ?_) ?_
     ·obtain ⟨⟨⟨v, p⟩, (bB : a.eval (.tmp 78) = sl v C p), bm⟩, -⟩ := hf
      exact px (or_mono (f := Fct.val 9 (sl v C p)) (or_assign bB) (fun O a' w' v' hp h => fun _ _ bJ => by cases (bB.symm.trans ((hp.2 78 (by decide)).symm.trans bJ)); exact h))
     exact steps_nil
    intro c7 bD fa eJ fp dV dH bd
    obtain ⟨cD, cE, au, cF, cG⟩ := kt5 dV bv ar bw bx bA
    obtain ⟨⟨⟨v, p⟩, (bB : bD.eval (.tmp 78) = sl v C p), (aU : RwO c7 477 [] fa 77 R77 v p C)⟩, (fJ : ∀ (v : Option Addr) (p : Nat), bD.eval (.tmp 78) = sl v C p → bD.eval (.tmp 9) = sl v C p), -⟩ := dH [11, 12] rfl
    have cH := fJ _ _ bB
    have dt := es_ ax bd
    obtain ⟨aV, aW⟩ := be2 bd ab ae
    have aT := re_ bd aa
    obtain ⟨fg, ep, k⟩ := obind k
    obtain ⟨P, eq, k⟩ := obind k
    refine rr 87 [Fct.rowAt 477 [] 77 R77 v p C, Fct.at_ 318 o 43 #[.string d, sl i b m]] c7 [477, 318] [0, 0, 2, 0, 14, 31, 63, 127] [dv [] [9] 79 (sl v C p), dv [] [6] 80 (pt o 1), dv [1, 9] [] 81 (sl i b m), dv [] [8] 82 (Zi c), ⟨[2, 3], [], [], Fct.view [322] 83 R77 fg⟩, ⟨[0, 4, 8], [], [477], Fct.row 490 [] 84 77 R77 P⟩, dv [] [6] 85 (pt o 1), ⟨[6, 5, 9], [], [318], Fct.by_ [492] [84] (fun l own w => ∀ (B : Option Addr) (t : Nat), l.getD 0 undef = sl B P t → BlkO own 492 w o 43 #[.string d, sl B P t]) (fun hk he h _ _ bJ => BlkO.evo (not_hit hk (by decide)) he (h _ _ bJ))⟩] fp eJ (fm2 aU aW) ?_ ?_
    ·refine sM cH <| sS (fun s => or_field fo43_1 (s.1.trans au) (by rfl)) ?_
     refine sc (fun own a wx hf S N => ?_) ?_
     ·obtain ⟨eW, (M : BlkO own 318 wx o 43 #[.string d, sl i b m]), -⟩ := hf
      exact px (ld1 to41 eW M)
     refine sM cG <| sFE (fun f N => or_view (R := R77) (l := b) (L := [322]) tu41 ts77 f.1 (Bnd.some_ f.2.1) Bnd.none_ Bnd.none_ (RwO.rd (re_ N aT)) ep (.inl rfl) (by simp)) ?_
     refine sc (fun own a wx hf S N => ?_) ?_
     ·obtain ⟨eV, ⟨⟨fO, fx⟩, eX, b7⟩, bm, -⟩ := hf
      exact px (or_append (R := R77) (lab := 477) (lab2 := 490) (L := []) (L3 := []) tp41 eV bm (by decide) eX b7 eq (by decide) (by decide) (mem_of rfl) (.inl (Rep.fl_flat _)))
     refine sS (fun s => or_field fo43_1 (s.1.trans au) (by rfl)) ?_
     refine sc (fun own a wx hf S N => ?_) ?_
     ·obtain ⟨eY, ⟨⟨B, t⟩, (bC : a.eval (.tmp 84) = sl B P t), fs⟩, M, -⟩ := hf
      exact px (or_store1 (lab := 318) (lab2 := 492) ts41 eY bC M (by simp) rfl (mem_of rfl) (by decide) rfl (fun O a' w' ha hb => fun _ _ bJ => by cases (bC.symm.trans ((ha 84).symm.trans bJ)); exact hb))
     exact steps_nil
    intro bY cU db eK fq dW dI bM
    obtain ⟨cI, cJ, cK, cL⟩ := kt4 dW cD cE au cF
    obtain ⟨⟨⟨B, t⟩, (bC : cU.eval (.tmp 84) = sl B P t), (aX : RwO bY 490 [] db 77 R77 B t P)⟩, (bE : ∀ (B : Option Addr) (t : Nat), cU.eval (.tmp 84) = sl B P t → BlkO bY 492 db o 43 #[.string d, sl B P t]), -⟩ := dI [5, 7] rfl
    have aZ := bE _ _ bC
    have du := es_ dt bM
    have aY := be_ bM aV
    refine d4 _ _ ?_
    refine d3 _ _ ?_
    refine rq 87 bY (bz 3) [dv [] [7] 16 (Zi j), dv [0] [] 17 (Zi (ad j 1)), dv [1] [] 7 (Zi (ad j 1))] fq eK ?_ ?_
    ·exact sM cL <| sF (fun f => or_add f.1 rfl rfl) <| sA <| steps_nil
    intro e5 gd go eL fr dX dJ be
    obtain ⟨cM, cN, cO⟩ := kt3 dX cI cJ cK
    have cP := gv (dJ [2] rfl) rfl
    have dw := es_ du be
    obtain ⟨a2, a3⟩ := be2 be aY aZ
    have a1 := re_ be aX
    exact d1 _ _ _ k ⟨(rl [(490, 322), (492, 318)] e5), B, t, eL, fr, cM, cN, cO, cP, (Evo.rl_ dw (fun _ => Nat.le_refl 0) rfl), (BlkO.rl_ a2), (BlkO.rl_ a3), (RwO.rl_ a1)⟩
  refine fl_exit ?_
  refine eb _ _ _ rfl ?_
  replace k := b1 _ k
  refine bf _ _ _ rfl ?_
  refine ei _ _ ?_
  refine dZ _ _ ?_
  refine rr_seq 87 [Fct.at_ 255 u 43 #[.string ByteArray.empty, .slice none 0 0]] c1 [255] (bz 3) [dv [] [6] 86 (.agg #[.string d, sl i b m]), ⟨[0, 3], [4], [255], Fct.at_ 495 u 43 #[.string d, sl i b m]⟩, dv [] [] 5 (Zi 0)] dd cV (fm1 W) ?_ ?_
  ·refine sL ta43 bq X ?_
   refine sc (fun own a wx hf S N => ?_) ?_
   ·obtain ⟨eZ, K, -⟩ := hf
    obtain ⟨b0, -⟩ := S
    exact px (or_store (l := #[.string d, sl i b m]) (lab := 255) (lab2 := 495) ts43 (b0.trans al) eZ K (by simp) (by kernel_rfl) (mem_of rfl) (by decide) (by kernel_rfl) (fun O a' w' ha hb => hb))
   exact sO (or_assign rfl) <| steps_nil
  intro c8 ge fb eM gr dY bS bN
  have cQ := kt dY al
  have cR := gv (bS [2] rfl) rfl
  obtain ⟨(a5 : BlkO c8 495 fb u 43 #[.string d, sl i b m]), -⟩ := bS [1] rfl
  have dx := es_ av bN
  have a4 := re_ bN V
  refine fl_ret ?_
  obtain rfl := osome k
  exact bX _ _ _ _ (.inl rfl) eM (results2_ rfl (RVal.cell_ cQ (run_loadVarAgg (l := [.string d, sl i b m]) ta43 (Blk.cellsFrom a5.2 0 rfl) rfl)) (RVal.tmp_ cR)) ⟨(rl [(322, 1)] c8), (i, m), rfl, (Evo.rl_ dx (fun _ => Nat.le_refl 0) rfl), (RwO.rl_ a4)⟩
theorem law27_Ofs_w (w : World) (O : List ((Int × Int × Int) × (List Int))) (q : Option Addr) (N : Nat) (ak : RdO (fun _ => 0) [0] w R30 q N O) (r : List ((Int × Int × Int) × ByteArray)) (A : law27_Ofs O = some r) :
  Calls Try.prog 16 #[sl q O N] w fun e w' => ∃ (V : Own) (x : Option Addr × Nat), e = .returned (.slice x.1 r.length x.2) ∧ Evo [] (fun _ => 0) V w w' ∧ RwO V 1 [] w' 77 R77 x.1 x.2 r := by
 refine fl_enter (n := 27) rfl rfl rfl (Nat.le_of_ble_eq_true rfl) ?_
 intro a0 Q d0 z0 am bj
 have bD := am 0 _ rfl
 clear am
 have bC : Evo [] (fun _ => 0) (fun _ => 0) w w := Evo.refl _ _ _
 refine rq_seq 27 (fun _ => 0) (bz 1) [dv [] [] 2 (.slice none 0 0)] z0 d0 ?_ ?_
 ·exact sO (or_assign rfl) <| steps_nil
 intro bI cb cf bw bN bf b0 a7
 have aq := kt bf bD
 have ba := es_ bC a7
 refine rq_seq 27 bI (bz 1) [dv [] [] 3 (.slice none 0 0)] bN bw ?_ ?_
 ·exact sO (or_assign rfl) <| steps_nil
 intro bJ cc cg bx bO bg bd a8
 have ar := kt bg aq
 have au := gv (bd [0] rfl) rfl
 have bb := es_ ba a8
 refine fl_seq (fun b9 bi b2 => ?_)
 refine rq_seq 27 bJ (bz 1) [dv [] [] 4 (Zi 0)] bO bx ?_ ?_
 ·exact sO (or_assign rfl) <| steps_nil
 intro bK cd ch bA bP bh be a9
 obtain ⟨av, aw⟩ := kt2 bh ar au
 have ax := gv (be [0] rfl) rfl
 have bc := es_ bb a9
 refine fl_block (fun ca b1 bk b3 => ?_)
 refine fl_loop (body := (fun s => law27_Ofs_b1 O s.1 s.2)) (z := r) (show loopO _ _ = _ from A) (fun (s : (List ((Int × Int × Int) × ByteArray)) × Int) a wx => match s with | (d, c) => ∃ (ox : Own) (m : Option Addr) (o : Nat), a.defers = [] ∧ a.tmps.size = 27 ∧ a.eval (.tmp 0) = sl q O N ∧ a.eval (.tmp 3) = sl m d o ∧ a.eval (.tmp 4) = Zi c ∧ Evo [] (fun _ => 0) ox w wx ∧ RwO ox 107 [] wx 77 R77 m o d) ?_ ?_
 ·exact ⟨bK, none, 0, bA, bP, av, aw, ax, bc, RwO.nil_⟩
 ·rintro ⟨d, c⟩ aU bW b4 ⟨bl, m, o, aX, bq, I, Z, J, az, B⟩ A bS aM aQ bp
  have A : law27_Ofs_b1 O d c = some aU := A
  refine fl_seq (fun bT aN aR => ?_)
  refine rq_seq 27 bl [0, 0, 2, 7] [dv [] [4] 5 (Zi c), dv [] [0] 6 (sl q O N), dv [1] [] 7 (Zi (O.length : Int)), dv [0, 2] [] 8 (.bool (decide (c < (O.length : Int))))] bq aX ?_ ?_
  ·exact sM J <| sM I <| sF (fun f => or_len tu23 f.1 rfl) <| sF (fun f => or_lss f.1 f.2.1 rfl) <| steps_nil
  intro an bX b5 al ap aJ aF S
  obtain ⟨u, K, v⟩ := kt3 aJ I Z J
  have aa := gv (aF [3] rfl) rfl
  have k := es_ az S
  have p := re_ S B
  refine fl_cond aa A (fun aW A => ?_) (fun aW A => ?_)
  ·refine fl_skip ?_
   refine aN _ _ ?_
   refine fl_seq (fun bU aO bF => ?_)
   refine fl_block (fun bV aP bH bG => ?_)
   obtain ⟨i, G, A⟩ := obind A
   obtain ⟨t, H, A⟩ := obind A
   obtain ⟨j, aT, A⟩ := obind A
   refine rd_ g_mixed 27 [Fct.rowAt 107 [] 77 R77 m o d] an [107] [0, 0, 0, 6, 14, 30, 0, 0, 192, 448, 960, 1984, 4094, 8190, 16383, 32767] [dv [] [3] 11 (sl m d o), dv [] [0] 12 (sl q O N), dv [] [4] 13 (Zi c), dv [1, 2] [] 14 (.pointer (some ((adr q).add ((c : Int).toNat * R30.s)))), dv [3] [] 15 (.pointer (some ((adr q).add ((c : Int).toNat * R30.s)))), ⟨[4], [], [], Fct.nest X30 [0] 16 (fun (y : (Unit × (Option Addr × Nat))) => .agg #[Zi i.1.1, Zi i.1.2.1, Zi i.1.2.2]) i⟩, dv [] [0] 17 (sl q O N), dv [] [4] 18 (Zi c), dv [6, 7] [] 19 (.pointer (some ((adr q).add ((c : Int).toNat * R30.s)))), dv [8] [] 20 (.pointer (some (((adr q).add ((c : Int).toNat * R30.s)).add 3))), ⟨[9], [], [], Fct.nest X30 [0] 21 (fun (y : (Unit × (Option Addr × Nat))) => .slice y.2.1 t.2.length y.2.2) t⟩, dv [10] [] 22 (.string (bsS t.2)), dv [5, 11] [] 23 (.agg #[Zi i.1.1, Zi i.1.2.1, Zi i.1.2.2, .string (bsS t.2)]), ⟨[12], [], [], Fct.row 146 [] 24 77 R77 [(i.1, bsS t.2)]⟩, ⟨[0, 13, 16], [], [107], Fct.row 148 [] 25 77 R77 j⟩, ⟨[14], [], [], Fct.rel [3, 25] (fun l => ∀ (g : Option Addr) (b : Nat), l.getD 1 undef = sl g j b → l.getD 0 undef = sl g j b)⟩] ap al (fm1 p) ?_ ?_
   ·refine sM K <| sM u <| sM v <| sF (fun f => or_index (R := R30) (l := O) tl23 f.1 f.2.1 (RdO.some_ (RdO.evo rfl k ak) G) G) <| sF (fun f => or_field fo30_0 f.1 (Addr.add_zero' _)) <| sFE (fun f hE => or_loadN X30 0 3 ta28 f.1 (Addr.add_zero' _).symm (RdO.evo rfl hE (RdO.evo rfl k ak)) G (fun _ => rfl) (fun _ => rfl)) <| sM u <| sM v <| sF (fun f => or_index (R := R30) (l := O) tl23 f.1 f.2.1 (RdO.some_ (RdO.evo rfl k ak) H) H) <| sF (fun f => or_field fo30_1 f.1 rfl) <| sFE (fun f hE => or_loadN1 X30 3 to22 f.1 rfl (RdO.evo rfl hE (RdO.evo rfl k ak)) H (fun _ => rfl)) ?_
    refine sc (fun own a wx hf aS hE => ?_) ?_
    ·obtain ⟨⟨⟨_, ⟨bQ, bu⟩⟩, a4, ⟨-, X⟩⟩, -⟩ := hf
     exact px (or_convBS tu22 tn5 tS9 a4 X)
    refine sc (fun own a wx hf aS hE => ?_) ?_
    ·obtain ⟨⟨⟨_, _⟩, a3, ⟨-, -⟩⟩, a5, -⟩ := hf
     exact px (ok2 a3 a5)
    refine sF (fun f => or_lit (lab := 146) (e := 77) (cs := #[Zi i.1.1, Zi i.1.2.1, Zi i.1.2.2, .string (bsS t.2)]) (F := E77) (nw1 f.1) rfl rfl (show 1 ≤ maxLen by decide)) ?_
    refine sc (fun own a wx hf aS hE => ?_) ?_
    ·obtain ⟨a2, ⟨⟨bR, bv⟩, a6, Y⟩, W, -⟩ := hf
     exact px (or_append (R := R77) (lab := 107) (lab2 := 148) (L := []) (L3 := []) tp41 a2 W (by decide) a6 (RwO.rd Y) aT (by decide) (by decide) (mem_of rfl) (.inl (Rep.fl_flat _)))
    refine sc (fun own a wx hf aS hE => ?_) ?_
    ·obtain ⟨⟨⟨g, b⟩, (M : a.eval (.tmp 25) = sl g j b), bt⟩, -⟩ := hf
     exact px (or_mono (f := Fct.val 3 (sl g j b)) (or_assign M) (fun V a' w' v' hp h => fun _ _ bB => by cases (M.symm.trans ((hp.2 25 (by decide)).symm.trans bB)); exact h))
    exact steps_nil
   intro ao P bo aY br aK aG aA
   obtain ⟨ab, af⟩ := kt2 aK u v
   obtain ⟨⟨⟨g, b⟩, (M : P.eval (.tmp 25) = sl g j b), (C : RwO ao 148 [] bo 77 R77 g b j)⟩, (bL : ∀ (g : Option Addr) (b : Nat), P.eval (.tmp 25) = sl g j b → P.eval (.tmp 3) = sl g j b), -⟩ := aG [14, 15] rfl
   have ae := bL _ _ M
   have aB := es_ k aA
   refine aP _ _ ?_
   refine aO _ _ ?_
   refine rq 27 ao (bz 3) [dv [] [4] 9 (Zi c), dv [0] [] 10 (Zi (ad c 1)), dv [1] [] 4 (Zi (ad c 1))] br aY ?_ ?_
   ·exact sM af <| sF (fun f => or_add f.1 rfl rfl) <| sA <| steps_nil
   intro bm bY b6 aZ bs aL aH T
   obtain ⟨ag, ah⟩ := kt2 aL ab ae
   have ai := gv (aH [2] rfl) rfl
   have aC := es_ aB T
   have D := re_ T C
   exact aM _ _ _ A ⟨(rl [(148, 107)] bm), g, b, aZ, bs, ag, ah, ai, (Evo.rl_ aC (fun _ => Nat.le_refl 0) rfl), (RwO.rl_ D)⟩
  refine fl_exit ?_
  refine aR _ _ _ rfl ?_
  replace A := bp _ A
  refine aQ _ _ _ rfl ?_
  refine bk _ _ ?_
  refine bi _ _ ?_
  refine rq_seq 27 an (bz 2) [dv [] [3] 26 (sl m d o), dv [0] [] 2 (sl m d o)] ap al ?_ ?_
  ·exact sM K <| sA <| steps_nil
  intro bn bZ b7 a1 b8 bE aI U
  have aj := gv (aI [1] rfl) rfl
  have aD := es_ k U
  have E := re_ U p
  refine fl_ret ?_
  obtain rfl := (osome A).symm
  exact bj _ _ _ _ (.inl rfl) a1 (results1_ rfl (RVal.tmp_ aj)) ⟨(rl [(107, 1)] bn), (m, o), rfl, (Evo.rl_ aD (fun _ => Nat.le_refl 0) rfl), (RwO.rl_ E)⟩
theorem ref07_Bytes_w : ∀ (fu : Nat) (w : World) (i : Int) (r : List Int) (k : ref07_Bytes fu i = some r),
  Calls Try.prog 36 #[.int .u64 i] w fun e w' => ∃ (q : Own) (x : Option Addr × Nat), e = .returned (.slice x.1 r.length x.2) ∧ Evo [] (fun _ => 0) q w w' ∧ RwO q 1 [] w' 5 R5 x.1 x.2 r := by
 intro fu
 induction fu with
 | zero => intros; rename_i k; exact nomatch k
 | succ fu ih =>
 intro w i r k
 refine fl_enter (n := 17) rfl rfl rfl (Nat.le_of_ble_eq_true rfl) ?_
 replace k : (if (decide (i < 128)) then (some [IntKind.u8.wrap i]) else ((rmK i 128).bind fun o => (quK .u64 i 128).bind fun z => ((ref07_Bytes fu) z).bind fun y => (app [IntKind.u8.wrap (adK .u64 128 o)] y).bind fun j => some j)) = some r := k
 intro a0 Q d0 z0 B C
 have aC := B 0 _ rfl
 clear B
 have aB : Evo [] (fun _ => 0) (fun _ => 0) w w := Evo.refl _ _ _
 refine rq_seq 17 (fun _ => 0) (bz 1) [dv [] [] 2 (.slice none 0 0)] z0 d0 ?_ ?_
 ·exact sO (or_assign rfl) <| steps_nil
 intro aE aT aW ay aH af aL T
 have u := kt af aC
 have X := es_ aB T
 refine fl_seq (fun aR ah ai => ?_)
 refine rq_seq 17 aE (bz 2) [dv [] [0] 3 (.int .u64 i), dv [0] [] 4 (.bool (decide (i < 128)))] aH ay ?_ ?_
 ·exact sM u <| sF (fun f => or_lss f.1 rfl rfl) <| steps_nil
 intro ao aU aX O ar ag ab U
 have m := kt ag u
 have I := gv (ab [1] rfl) rfl
 have A := es_ X U
 refine fl_cond I k (fun ax k => ?_) (fun ax k => ?_)
 ·refine rq_seq 17 ao (bz 4) [dv [] [0] 5 (.int .u64 i), dv [0] [] 6 (.int .u8 (IntKind.u8.wrap i)), ⟨[1], [], [], Fct.row 45 [] 7 5 R5 [IntKind.u8.wrap i]⟩, ⟨[2], [], [], Fct.rel [2, 7] (fun l => ∀ (d : Option Addr) (b : Nat), l.getD 1 undef = .slice d [IntKind.u8.wrap i].length b → l.getD 0 undef = .slice d [IntKind.u8.wrap i].length b)⟩] ar O ?_ ?_
  ·refine sM m <| sF (fun f => or_conv f.1 tn26 tn5 rfl) <| sF (fun f => or_lit (lab := 45) (e := 5) (cs := #[.int .u8 (IntKind.u8.wrap i)]) (F := E5) (nw1 f.1) rfl rfl (show 1 ≤ maxLen by decide)) ?_
   refine sc (fun own a wx hf ak hE => ?_) ?_
   ·obtain ⟨⟨⟨d, b⟩, (v : a.eval (.tmp 7) = .slice d [IntKind.u8.wrap i].length b), av⟩, -⟩ := hf
    exact px (or_mono (f := Fct.val 2 (.slice d [IntKind.u8.wrap i].length b)) (or_assign v) (fun q a' w' v' hp h => fun _ _ M => by cases (v.symm.trans ((hp.2 7 (by decide)).symm.trans M)); exact h))
   exact steps_nil
  intro ap D aF az aZ aM ad V
  obtain ⟨⟨⟨d, b⟩, (v : D.eval (.tmp 7) = .slice d [IntKind.u8.wrap i].length b), (s : RwO ap 45 [] aF 5 R5 d b [IntKind.u8.wrap i])⟩, (N : ∀ (d : Option Addr) (b : Nat), D.eval (.tmp 7) = .slice d [IntKind.u8.wrap i].length b → D.eval (.tmp 2) = .slice d [IntKind.u8.wrap i].length b), -⟩ := ad [2, 3] rfl
  have J := N _ _ v
  have Y := es_ A V
  refine fl_ret ?_
  refine ai _ _ _ rfl ?_
  obtain rfl := osome k
  exact C _ _ _ _ (.inl rfl) az (results1_ rfl (RVal.tmp_ J)) ⟨(rl [(45, 1)] ap), (d, b), rfl, (Evo.rl_ Y (fun _ => Nat.le_refl 0) rfl), (RwO.rl_ s)⟩
 refine fl_skip ?_
 refine ah _ _ ?_
 obtain ⟨o, al, k⟩ := obind k
 obtain ⟨z, am, k⟩ := obind k
 obtain ⟨y, aj, k⟩ := obind k
 obtain ⟨j, an, k⟩ := obind k
 refine rp_seq 17 ao [49] [0, 1, 3, 7, 15, 0, 32, 96, 255, 511] [dv [] [0] 8 (.int .u64 i), dv [0] [] 9 (.int .u64 o), dv [1] [] 10 (.int .u64 (adK .u64 128 o)), dv [2] [] 11 (.int .u8 (IntKind.u8.wrap (adK .u64 128 o))), ⟨[3], [], [], Fct.row 49 [] 12 5 R5 [IntKind.u8.wrap (adK .u64 128 o)]⟩, dv [] [0] 13 (.int .u64 i), dv [5] [] 14 (.int .u64 z), ⟨[6], [], [], Fct.row 53 [] 15 5 R5 y⟩, ⟨[4, 7], [], [49], Fct.row 55 [] 16 5 R5 j⟩, ⟨[8], [], [], Fct.rel [2, 16] (fun l => ∀ (g : Option Addr) (c : Nat), l.getD 1 undef = sl g j c → l.getD 0 undef = sl g j c)⟩] ar O ?_ ?_
 ·refine sM m <| sF (fun f => or_rem f.1 rfl al) <| sF (fun f => or_add rfl f.1 rfl) <| sF (fun f => or_conv f.1 tn26 tn5 rfl) <| sF (fun f => or_lit (lab := 49) (e := 5) (cs := #[.int .u8 (IntKind.u8.wrap (adK .u64 128 o))]) (F := E5) (nw1 f.1) rfl rfl (show 1 ≤ maxLen by decide)) <| sM m <| sF (fun f => or_quo f.1 rfl am) <| sF (fun f => or_call cf36 (args1 f.1) (ih _ z  y aj) (post_row (m' := (look0 [(1, 53)])) (.inl (Rep.fl_flat _)) rfl rfl (fun _ => rfl))) ?_
  refine sc (fun own a wx hf ak hE => ?_) ?_
  ·obtain ⟨⟨⟨aP, aI⟩, P, G⟩, ⟨⟨aQ, aJ⟩, S, H⟩, -⟩ := hf
   exact px (or_append (R := R5) (lab := 49) (lab2 := 55) (L := []) (L3 := []) tp22 P G (by decide) S (RwO.rd H) an (by decide) (by decide) (mem_of rfl) (.inl (Rep.fl_flat _)))
  refine sc (fun own a wx hf ak hE => ?_) ?_
  ·obtain ⟨⟨⟨g, c⟩, (p : a.eval (.tmp 16) = sl g j c), aw⟩, -⟩ := hf
   exact px (or_mono (f := Fct.val 2 (sl g j c)) (or_assign p) (fun q a' w' v' hp h => fun _ _ M => by cases (p.symm.trans ((hp.2 16 (by decide)).symm.trans M)); exact h))
  exact steps_nil
 intro aq E aG aA a1 aN ae W
 obtain ⟨⟨⟨g, c⟩, (p : E.eval (.tmp 16) = sl g j c), (t : RwO aq 55 [] aG 5 R5 g c j)⟩, (N : ∀ (g : Option Addr) (c : Nat), E.eval (.tmp 16) = sl g j c → E.eval (.tmp 2) = sl g j c), -⟩ := ae [8, 9] rfl
 have K := N _ _ p
 have Z := es_ A W
 refine fl_ret ?_
 obtain rfl := (osome k).symm
 exact C _ _ _ _ (.inl rfl) aA (results1_ rfl (RVal.tmp_ K)) ⟨(rl [(55, 1)] aq), (g, c), rfl, (Evo.rl_ Z (fun _ => Nat.le_refl 0) rfl), (RwO.rl_ t)⟩
theorem ref27_whole_w (w : World) (own : Own) (p : List Int) (k : Option Addr) (m : Nat) (F : ByteArray) (u : ∀ b, own b ≤ 1) (T : RwO own 1 [] w 5 R5 k m p) (r : List Int) (U : ref27_whole p F = some r) :
  Calls Try.prog 34 #[sl k p m, .string F] w fun e w' => ∃ (v : Own) (x : Option Addr × Nat), e = .returned (.slice x.1 r.length x.2) ∧ Evo [1] own v w w' ∧ RwO v 2 [] w' 5 R5 x.1 x.2 r := by
 refine fl_enter (n := 15) rfl rfl rfl (Nat.le_of_ble_eq_true rfl) ?_
 intro a0 Q d0 z0 D aj
 have aA := D 0 _ rfl
 have aB := D 1 _ rfl
 clear D
 have az : Evo [1] own own w w := Evo.refl _ _ _
 refine rq_seq 15 own (bz 1) [dv [] [] 4 (.slice none 0 0)] z0 d0 ?_ ?_
 ·exact sO (or_assign rfl) <| steps_nil
 intro aD aS aU ar aJ ag aN E
 obtain ⟨K, C⟩ := kt2 ag aA aB
 have aa := Evo.step az u E rfl
 have q := re_ E T
 obtain ⟨ao, ai, U⟩ := obind U
 obtain ⟨j, ak, U⟩ := obind U
 refine rr_seq 15 [Fct.rowAt 1 [] 5 R5 k m p] aD [1] [0, 0, 2, 6, 14, 31, 63] [dv [] [0] 5 (sl k p m), dv [] [1] 6 (.string F), dv [1] [] 7 (Zi (F.size : Int)), dv [2] [] 8 (.int .u64 (IntKind.u64.wrap (F.size : Int))), ⟨[3], [], [], Fct.row 37 [] 9 5 R5 ao⟩, ⟨[0, 4, 7], [], [1], Fct.row 39 [] 10 5 R5 j⟩, ⟨[5], [], [], Fct.rel [0, 10] (fun l => ∀ (g : Option Addr) (c : Nat), l.getD 1 undef = sl g j c → l.getD 0 undef = sl g j c)⟩] aJ ar (fm1 q) ?_ ?_
 ·refine sM K <| sM C <| sF (fun f => or_lenS tS9 f.1 rfl) <| sF (fun f => or_conv f.1 tn3 tn26 rfl) <| sF (fun f => or_call cf36 (args1 f.1) (ref07_Bytes_w 12 _ (IntKind.u64.wrap (F.size : Int))  ao ai) (post_row (m' := (look0 [(1, 37)])) (.inl (Rep.fl_flat _)) rfl rfl (fun _ => rfl))) ?_
  refine sc (fun own a wx S V hE => ?_) ?_
  ·obtain ⟨aw, ⟨⟨aP, aL⟩, ax, I⟩, B, -⟩ := S
   exact px (or_append (R := R5) (lab := 1) (lab2 := 39) (L := []) (L3 := []) tp22 aw B (by decide) ax (RwO.rd I) ak (by decide) (by decide) (mem_of rfl) (.inl (Rep.fl_flat _)))
  refine sc (fun own a wx S V hE => ?_) ?_
  ·obtain ⟨⟨⟨g, c⟩, (s : a.eval (.tmp 10) = sl g j c), A⟩, -⟩ := S
   exact px (or_mono (f := Fct.val 0 (sl g j c)) (or_assign s) (fun v a' w' v' hp h => fun _ _ P => by cases (s.symm.trans ((hp.2 10 (by decide)).symm.trans P)); exact h))
  exact steps_nil
 intro am G aG au aK ah ae Y
 have N := kt ah C
 obtain ⟨⟨⟨g, c⟩, (s : G.eval (.tmp 10) = sl g j c), (y : RwO am 39 [] aG 5 R5 g c j)⟩, (aE : ∀ (g : Option Addr) (c : Nat), G.eval (.tmp 10) = sl g j c → G.eval (.tmp 0) = sl g j c), -⟩ := ae [5, 6] rfl
 have M := aE _ _ s
 have ab := Evo.step aa u Y rfl
 obtain ⟨o, al, U⟩ := obind U
 refine rr_seq 15 [Fct.rowAt 39 [] 5 R5 g c j] am [39] [0, 0, 2, 7, 15] [dv [] [0] 11 (sl g j c), dv [] [1] 12 (.string F), ⟨[1], [], [], Fct.view [45] 13 R5 (sB F)⟩, ⟨[0, 2, 5], [], [39], Fct.row 47 [] 14 5 R5 o⟩, ⟨[3], [], [], Fct.rel [4, 14] (fun l => ∀ (i : Option Addr) (d : Nat), l.getD 1 undef = sl i o d → l.getD 0 undef = sl i o d)⟩] aK au (fm1 y) ?_ ?_
 ·refine sM M <| sM N <| sF (fun f => or_convSB (lab := 45) tS9 tu22 tn5 f.1) ?_
  refine sc (fun own a wx S V hE => ?_) ?_
  ·obtain ⟨W, ⟨⟨aQ, aM⟩, X, J⟩, A, -⟩ := S
   exact px (or_append (R := R5) (lab := 39) (lab2 := 47) (L := []) (L3 := []) tp22 W A (by decide) X J al (by decide) (by decide) (mem_of rfl) (.inl (Rep.fl_flat _)))
  refine sc (fun own a wx S V hE => ?_) ?_
  ·obtain ⟨⟨⟨i, d⟩, (t : a.eval (.tmp 14) = sl i o d), aq⟩, -⟩ := S
   exact px (or_mono (f := Fct.val 4 (sl i o d)) (or_assign t) (fun v a' w' v' hp h => fun _ _ P => by cases (t.symm.trans ((hp.2 14 (by decide)).symm.trans P)); exact h))
  exact steps_nil
 intro an H aH av aW aO af Z
 obtain ⟨⟨⟨i, d⟩, (t : H.eval (.tmp 14) = sl i o d), (z : RwO an 47 [] aH 5 R5 i d o)⟩, (aF : ∀ (i : Option Addr) (d : Nat), H.eval (.tmp 14) = sl i o d → H.eval (.tmp 4) = sl i o d), -⟩ := af [3, 4] rfl
 have O := aF _ _ t
 have ad := Evo.step ab u Z rfl
 refine fl_ret ?_
 obtain rfl := (osome U).symm
 exact aj _ _ _ _ (.inl rfl) av (results1_ rfl (RVal.tmp_ O)) ⟨(rl [(47, 2)] an), (i, d), rfl, (Evo.rl_ ad u rfl), (RwO.rl_ z)⟩
theorem ref27_whole_v_w (w : World) (i : List Int) (m : Option Addr) (B : ByteArray) (N : RdO (fun _ => 0) [0] w R5 m i.length i) (r : List Int) (O : ref27_whole_v i B = some r) :
  Calls Try.prog 34 #[sl m i i.length, .string B] w fun e w' => ∃ (q : Own) (x : Option Addr × Nat), e = .returned (.slice x.1 r.length x.2) ∧ Evo [] (fun _ => 0) q w w' ∧ RwO q 1 [] w' 5 R5 x.1 x.2 r := by
 refine fl_enter (n := 15) rfl rfl rfl (Nat.le_of_ble_eq_true rfl) ?_
 intro a0 Q d0 z0 y af
 have av := y 0 _ rfl
 have aw := y 1 _ rfl
 clear y
 have au : Evo [] (fun _ => 0) (fun _ => 0) w w := Evo.refl _ _ _
 refine rq_seq 15 (fun _ => 0) (bz 1) [dv [] [] 4 (.slice none 0 0)] z0 d0 ?_ ?_
 ·exact sO (or_assign rfl) <| steps_nil
 intro ay aN aP an aE ab aI U
 obtain ⟨G, v⟩ := kt2 ab av aw
 have z := es_ au U
 obtain ⟨aj, ae, O⟩ := obind O
 obtain ⟨j, A, O⟩ := obind O
 refine rp_seq 15 ay [33] [0, 0, 2, 6, 14, 31, 63] [dv [] [0] 5 (sl m i i.length), dv [] [1] 6 (.string B), dv [1] [] 7 (Zi (B.size : Int)), dv [2] [] 8 (.int .u64 (IntKind.u64.wrap (B.size : Int))), ⟨[3], [], [], Fct.row 31 [] 9 5 R5 aj⟩, ⟨[0, 4], [], [33], Fct.row 34 [] 10 5 R5 j⟩, ⟨[5], [], [], Fct.rel [0, 10] (fun l => ∀ (d : Option Addr) (b : Nat), l.getD 1 undef = sl d j b → l.getD 0 undef = sl d j b)⟩] aE an ?_ ?_
 ·refine sM G <| sM v <| sF (fun f => or_lenS tS9 f.1 rfl) <| sF (fun f => or_conv f.1 tn3 tn26 rfl) <| sF (fun f => or_call cf36 (args1 f.1) (ref07_Bytes_w 12 _ (IntKind.u64.wrap (B.size : Int))  aj ae) (post_row (m' := (look0 [(1, 31)])) (.inl (Rep.fl_flat _)) rfl rfl (fun _ => rfl))) ?_
  refine sc (fun own a wx M P hE => ?_) ?_
  ·obtain ⟨aq, ⟨⟨aK, aG⟩, ar, E⟩, -⟩ := M
   exact px (or_appendF (R := R5) (lab := 33) (lab2 := 34) tp22 aq (RdO.evo rfl hE (RdO.evo rfl z N)) ar (RwO.rd E) (apF_some A).1 (apF_some A).2 (by decide) (by decide) (Rep.fl_flat _) (mem_of rfl) (by decide))
  refine sc (fun own a wx M P hE => ?_) ?_
  ·obtain ⟨⟨⟨d, b⟩, (o : a.eval (.tmp 10) = sl d j b), u⟩, -⟩ := M
   exact px (or_mono (f := Fct.val 0 (sl d j b)) (or_assign o) (fun q a' w' v' hp h => fun _ _ K => by cases (o.symm.trans ((hp.2 10 (by decide)).symm.trans K)); exact h))
  exact steps_nil
 intro ah C aB ao aF ad Z V
 have I := kt ad v
 obtain ⟨⟨⟨d, b⟩, (o : C.eval (.tmp 10) = sl d j b), (s : RwO ah 34 [] aB 5 R5 d b j)⟩, (az : ∀ (d : Option Addr) (b : Nat), C.eval (.tmp 10) = sl d j b → C.eval (.tmp 0) = sl d j b), -⟩ := Z [5, 6] rfl
 have H := az _ _ o
 have X := es_ z V
 obtain ⟨k, ag, O⟩ := obind O
 refine rr_seq 15 [Fct.rowAt 34 [] 5 R5 d b j] ah [34] [0, 0, 2, 7, 15] [dv [] [0] 11 (sl d j b), dv [] [1] 12 (.string B), ⟨[1], [], [], Fct.view [40] 13 R5 (sB B)⟩, ⟨[0, 2, 5], [], [34], Fct.row 42 [] 14 5 R5 k⟩, ⟨[3], [], [], Fct.rel [4, 14] (fun l => ∀ (g : Option Addr) (c : Nat), l.getD 1 undef = sl g k c → l.getD 0 undef = sl g k c)⟩] aF ao (fm1 s) ?_ ?_
 ·refine sM H <| sM I <| sF (fun f => or_convSB (lab := 40) tS9 tu22 tn5 f.1) ?_
  refine sc (fun own a wx M P hE => ?_) ?_
  ·obtain ⟨S, ⟨⟨aL, aH⟩, T, F⟩, u, -⟩ := M
   exact px (or_append (R := R5) (lab := 34) (lab2 := 42) (L := []) (L3 := []) tp22 S u (by decide) T F ag (by decide) (by decide) (mem_of rfl) (.inl (Rep.fl_flat _)))
  refine sc (fun own a wx M P hE => ?_) ?_
  ·obtain ⟨⟨⟨g, c⟩, (p : a.eval (.tmp 14) = sl g k c), am⟩, -⟩ := M
   exact px (or_mono (f := Fct.val 4 (sl g k c)) (or_assign p) (fun q a' w' v' hp h => fun _ _ K => by cases (p.symm.trans ((hp.2 14 (by decide)).symm.trans K)); exact h))
  exact steps_nil
 intro ai D aC ap aR aJ aa W
 obtain ⟨⟨⟨g, c⟩, (p : D.eval (.tmp 14) = sl g k c), (t : RwO ai 42 [] aC 5 R5 g c k)⟩, (aA : ∀ (g : Option Addr) (c : Nat), D.eval (.tmp 14) = sl g k c → D.eval (.tmp 4) = sl g k c), -⟩ := aa [3, 4] rfl
 have J := aA _ _ p
 have Y := es_ X W
 refine fl_ret ?_
 obtain rfl := (osome O).symm
 exact af _ _ _ _ (.inl rfl) ap (results1_ rfl (RVal.tmp_ J)) ⟨(rl [(42, 1)] ai), (g, c), rfl, (Evo.rl_ Y (fun _ => Nat.le_refl 0) rfl), (RwO.rl_ t)⟩
theorem ref27_Bytes_w (w : World) (U : ByteArray × (List ((Int × Int × Int) × ByteArray))) (j : Option Addr) (t : Nat) (aa : RdO (fun _ => 0) [0] w R77 j t U.2) (r : List Int) (o : ref27_Bytes U = some r) :
  Calls Try.prog 17 #[.agg #[.string U.1, sl j U.2 t]] w fun e w' => ∃ (O : Own) (x : Option Addr × Nat), e = .returned (.slice x.1 r.length x.2) ∧ Evo [] (fun _ => 0) O w w' ∧ RwO O 1 [] w' 5 R5 x.1 x.2 r := by
 refine fl_enter (n := 83) rfl rfl rfl (Nat.le_of_ble_eq_true rfl) ?_
 intro a0 Q d0 z0 d4 gt
 have ho := d4 0 _ rfl
 clear d4
 have hn : Evo [] (fun _ => 0) (fun _ => 0) w w := Evo.refl _ _ _
 refine rq_seq 83 (fun _ => 0) [0, 0] [⟨[], [0], [], Fct.blk 348 1 (fun g => pt g 0) 43 #[.string U.1, sl j U.2 t]⟩, dv [] [] 2 (.slice none 0 0)] z0 d0 ?_ ?_
 ·exact sS (fun s => nw1 (s.1.trans ho)) <| sO (or_assign rfl) <| steps_nil
 intro d5 fS gF fX gO hq eH ep
 obtain ⟨⟨G, (b1 : fS.eval (.tmp 1) = pt G 0), (ao : BlkO d5 348 gF G 43 #[.string U.1, sl j U.2 t])⟩, -⟩ := eH [0] rfl
 have et := es_ hn ep
 obtain ⟨N, fB, o⟩ := obind o
 refine rp_seq 83 d5 [351] [0, 1, 0, 4, 15, 31] [⟨[], [], [], Fct.rowF 351 10 5 R5 [71, 82, 84, 49]⟩, ⟨[0], [], [351], Fct.viewF [352] 11 R5 [71, 82, 84, 49]⟩, dv [] [1] 12 (pt G 0), dv [2] [] 13 (.string U.1), ⟨[1, 3], [], [], Fct.row 356 [] 14 5 R5 N⟩, ⟨[4], [], [], Fct.rel [3, 14] (fun l => ∀ (E : Option Addr) (q : Nat), l.getD 1 undef = sl E N q → l.getD 0 undef = sl E N q)⟩] gO fX ?_ ?_
 ·refine sO (or_litF (lab := 351) (e := 5) (cs := #[.int .u8 71, .int .u8 82, .int .u8 84, .int .u8 49]) (F := E5) (nw0) rfl rfl (show 4 ≤ maxLen by decide)) ?_
  refine sc (fun own a wx hf aj hE => ?_) ?_
  ·obtain ⟨⟨hN, gg, cO⟩, -⟩ := hf
   exact px (or_convM (lab := 351) (lab2 := 352) tu22 tn5 gg cO (mem_of rfl) (by decide) (by simp))
  refine sS (fun s => or_field fo43_0 (s.1.trans b1) (by rfl)) <| sG to9 ao ?_
  refine sc (fun own a wx hf aj hE => ?_) ?_
  ·obtain ⟨⟨fR, gh, cP⟩, gi, -⟩ := hf
   exact px (or_call cf34 (args2 gh gi) (ref27_whole_v_w _ [71, 82, 84, 49] fR U.1 (RdO.zero cP) N fB) (post_row (m' := (look0 [(1, 356)])) (.inl (Rep.fl_flat _)) rfl rfl (fun _ => rfl)))
  refine sc (fun own a wx hf aj hE => ?_) ?_
  ·obtain ⟨⟨⟨E, q⟩, (cn : a.eval (.tmp 14) = sl E N q), b0⟩, -⟩ := hf
   exact px (or_mono (f := Fct.val 3 (sl E N q)) (or_assign cn) (fun O a' w' v' hp h => fun _ _ ah => by cases (cn.symm.trans ((hp.2 14 (by decide)).symm.trans ah)); exact h))
  exact steps_nil
 intro d6 cw gG fY gP e0 eI cG
 have b2 := kt e0 b1
 obtain ⟨⟨⟨E, q⟩, (cn : cw.eval (.tmp 14) = sl E N q), (aX : RwO d6 356 [] gG 5 R5 E q N)⟩, (aW : ∀ (E : Option Addr) (q : Nat), cw.eval (.tmp 14) = sl E N q → cw.eval (.tmp 3) = sl E N q), -⟩ := eI [4, 5] rfl
 have cV := aW _ _ cn
 have cI := es_ et cG
 have ap := be_ cG ao
 obtain ⟨c, fC, o⟩ := obind o
 refine rq_seq 83 d6 (bz 3) [dv [] [1] 15 (.agg #[.string U.1, sl j U.2 t]), ⟨[0], [], [], Fct.row 360 [] 16 9 R9 c⟩, ⟨[1], [], [], Fct.rel [4, 16] (fun l => ∀ (i : Option Addr) (d : Nat), l.getD 1 undef = sl i c d → l.getD 0 undef = sl i c d)⟩] gP fY ?_ ?_
 ·refine sL ta43 b2 ap <| sFE (fun f hE => or_call cf35 (args1 f.1) (ref27_Blobs_w _ U j t (RdO.zero (RdO.evo rfl hE (RdO.evo rfl cI aa))) c fC) (post_row (m' := (look0 [(1, 360)])) (.inl (Rep.fl_flat _)) rfl rfl (fun _ => rfl))) ?_
  refine sc (fun own a wx hf aj hE => ?_) ?_
  ·obtain ⟨⟨⟨i, d⟩, (co : a.eval (.tmp 16) = sl i c d), g9⟩, -⟩ := hf
   exact px (or_mono (f := Fct.val 4 (sl i c d)) (or_assign co) (fun O a' w' v' hp h => fun _ _ ah => by cases (co.symm.trans ((hp.2 16 (by decide)).symm.trans ah)); exact h))
  exact steps_nil
 intro d7 cx gH fZ gQ e1 eJ bR
 obtain ⟨cW, cX⟩ := kt2 e1 b2 cV
 obtain ⟨⟨⟨i, d⟩, (co : cx.eval (.tmp 16) = sl i c d), (aZ : RwO d7 360 [] gH 9 R9 i d c)⟩, (hL : ∀ (i : Option Addr) (d : Nat), cx.eval (.tmp 16) = sl i c d → cx.eval (.tmp 4) = sl i c d), -⟩ := eJ [1, 2] rfl
 have b3 := hL _ _ co
 have eu := es_ cI bR
 have a1 := be_ bR ap
 have aY := re_ bR aX
 obtain ⟨eh, fD, o⟩ := obind o
 obtain ⟨ae, fI, o⟩ := obind o
 refine rr_seq 83 [Fct.rowAt 356 [] 5 R5 E q N] d7 [356] [0, 0, 2, 6, 14, 31, 63] [dv [] [3] 17 (sl E N q), dv [] [4] 18 (sl i c d), dv [1] [] 19 (Zi (c.length : Int)), dv [2] [] 20 (.int .u64 (IntKind.u64.wrap (c.length : Int))), ⟨[3], [], [], Fct.row 367 [] 21 5 R5 eh⟩, ⟨[0, 4, 7], [], [356], Fct.row 369 [] 22 5 R5 ae⟩, ⟨[5], [], [], Fct.rel [3, 22] (fun l => ∀ (I : Option Addr) (v : Nat), l.getD 1 undef = sl I ae v → l.getD 0 undef = sl I ae v)⟩] gQ fZ (fm1 aY) ?_ ?_
 ·refine sM cX <| sM b3 <| sF (fun f => or_len tu80 f.1 rfl) <| sF (fun f => or_conv f.1 tn3 tn26 rfl) <| sF (fun f => or_call cf36 (args1 f.1) (ref07_Bytes_w 12 _ (IntKind.u64.wrap (c.length : Int))  eh fD) (post_row (m' := (look0 [(1, 367)])) (.inl (Rep.fl_flat _)) rfl rfl (fun _ => rfl))) ?_
  refine sc (fun own a wx hf aj hE => ?_) ?_
  ·obtain ⟨gj, ⟨⟨hO, hj⟩, gk, cQ⟩, b0, -⟩ := hf
   exact px (or_append (R := R5) (lab := 356) (lab2 := 369) (L := []) (L3 := []) tp22 gj b0 (by decide) gk (RwO.rd cQ) fI (by decide) (by decide) (mem_of rfl) (.inl (Rep.fl_flat _)))
  refine sc (fun own a wx hf aj hE => ?_) ?_
  ·obtain ⟨⟨⟨I, v⟩, (cp : a.eval (.tmp 22) = sl I ae v), hc⟩, -⟩ := hf
   exact px (or_mono (f := Fct.val 3 (sl I ae v)) (or_assign cp) (fun O a' w' v' hp h => fun _ _ ah => by cases (cp.symm.trans ((hp.2 22 (by decide)).symm.trans ah)); exact h))
  exact steps_nil
 intro d8 cy gI f0 gR e2 eK bS
 obtain ⟨cY, c0⟩ := kt2 e2 cW b3
 obtain ⟨⟨⟨I, v⟩, (cp : cy.eval (.tmp 22) = sl I ae v), (a3 : RwO d8 369 [] gI 5 R5 I v ae)⟩, (aW : ∀ (I : Option Addr) (v : Nat), cy.eval (.tmp 22) = sl I ae v → cy.eval (.tmp 3) = sl I ae v), -⟩ := eK [5, 6] rfl
 have cZ := aW _ _ cp
 have ev := es_ eu bS
 have a4 := be_ bS a1
 have a2 := re_ bS aZ
 refine fl_seq (fun hR fh hw => ?_)
 refine rq_seq 83 d8 (bz 1) [dv [] [] 5 (Zi 0)] gR f0 ?_ ?_
 ·exact sO (or_assign rfl) <| steps_nil
 intro gu h9 io f1 gS e3 eL aM
 obtain ⟨c1, c2, c3⟩ := kt3 e3 cY cZ c0
 have c4 := gv (eL [0] rfl) rfl
 have ew := es_ ev aM
 have a7 := be_ aM a4
 have a5 := re_ aM a2
 have a6 := re_ aM a3
 refine fl_block (fun hS ht fJ hx => ?_)
 refine fl_loop (body := (fun s => ref27_Bytes_b1 U c s.1 s.2)) (z := r) (show loopO _ _ = _ from o) (fun (s : (List Int) × Int) a wx => match s with | (C, V) => ∃ (ox : Own) (ak : Option Addr) (al : Nat), a.defers = [] ∧ a.tmps.size = 83 ∧ a.eval (.tmp 1) = pt G 0 ∧ a.eval (.tmp 3) = sl ak C al ∧ a.eval (.tmp 4) = sl i c d ∧ a.eval (.tmp 5) = Zi V ∧ Evo [] (fun _ => 0) ox w wx ∧ BlkO ox 348 wx G 43 #[.string U.1, sl j U.2 t] ∧ RwO ox 391 [] wx 5 R5 ak al C ∧ RwO ox 360 [] wx 9 R9 i d c) ?_ ?_
 ·exact ⟨(rl [(369, 391)] gu), I, v, f1, gS, c1, c2, c3, c4, (Evo.rl_ ew (fun _ => Nat.le_refl 0) rfl), (BlkO.rl_ a7), (RwO.rl_ a6), (RwO.rl_ a5)⟩
 ·rintro ⟨C, V⟩ fO ia ip ⟨gw, ak, al, f2, gU, c5, c6, b4, b5, eq, ba, a9, a8⟩ o hT fi fv gT
  have o : ref27_Bytes_b1 U c C V = some fO := o
  refine fl_seq (fun hU fj fw => ?_)
  refine rq_seq 83 gw [0, 0, 2, 7] [dv [] [5] 23 (Zi V), dv [] [4] 24 (sl i c d), dv [1] [] 25 (Zi (c.length : Int)), dv [0, 2] [] 26 (.bool (decide (V < (c.length : Int))))] gU f2 ?_ ?_
  ·exact sM b5 <| sM b4 <| sF (fun f => or_len tu80 f.1 rfl) <| sF (fun f => or_lss f.1 f.2.1 rfl) <| steps_nil
  intro d9 ib iq d1 em e4 eM aN
  obtain ⟨aJ, b6, aK, b7⟩ := kt4 e4 c5 c6 b4 b5
  have cD := gv (eM [3] rfl) rfl
  have cJ := es_ eq aN
  have X := be_ aN ba
  have aq := re_ aN a9
  have H := re_ aN a8
  refine fl_cond cD o (fun fU o => ?_) (fun fU o => ?_)
  ·refine fl_skip ?_
   refine fj _ _ ?_
   refine fl_seq (fun hV fk hy => ?_)
   refine fl_block (fun hW fl hI hz => ?_)
   obtain ⟨ek, bW, o⟩ := obind o
   obtain ⟨P, fE, o⟩ := obind o
   refine rr 83 [Fct.rowAt 391 [] 5 R5 ak al C] d9 [391] [0, 0, 0, 6, 14, 31, 63] [dv [] [3] 29 (sl ak C al), dv [] [4] 30 (sl i c d), dv [] [5] 31 (Zi V), dv [1, 2] [] 32 (.pointer (some ((adr i).add ((V : Int).toNat * R9.s)))), dv [3] [] 33 (.string ek), ⟨[0, 4, 7], [], [391], Fct.mems [417] 34 (fun (x : Option Addr × Nat) => .slice x.1 P.length x.2) (fun (x : Option Addr × Nat) own w => RwO own 417 [] w 5 R5 x.1 x.2 P) (fun hk he h => RwO.evo (hits_sub hk (by decide)) he h)⟩, ⟨[5], [], [], Fct.rel [3, 34] (fun l => ∀ (J : Option Addr) (y : Nat), l.getD 1 undef = sl J P y → l.getD 0 undef = sl J P y)⟩] em d1 (fm1 aq) ?_ ?_
   ·refine sM b6 <| sM aK <| sM b7 <| sF (fun f => or_index (R := R9) (l := c) tl80 f.1 f.2.1 (RdO.some_ (RwO.rd H) bW) bW) <| sFE (fun f hE => or_load1 to9 f.1 (CellsAt.zero (RdO.cells (F := E9) (RwO.rd (re_ hE H)) bW) rfl)) ?_
    refine sc (fun own a wx hf aj hE => ?_) ?_
    ·obtain ⟨gl, gm, aI, -⟩ := hf
     exact px (or_call cf34 (args2 gl gm) (ref27_whole_w _ (forth own (look0 [(391, 1)])) C ak al ek (look0_le rfl) (RwO.forth_ (m := (look0 [(391, 1)])) aI) P fE) (post_mems (m := (look0 [(391, 1)])) (m' := (look0 [(2, 417)])) (hm_of rfl) (fun O w' a' x h1 h => ⟨x, h1, RwO.back_ h (by decide) (.inl (Rep.fl_flat _))⟩)))
    refine sc (fun own a wx hf aj hE => ?_) ?_
    ·obtain ⟨⟨⟨J, y⟩, (cq : a.eval (.tmp 34) = sl J P y), hd⟩, -⟩ := hf
     exact px (or_mono (f := Fct.val 3 (sl J P y)) (or_assign cq) (fun O a' w' v' hp h => fun _ _ ah => by cases (cq.symm.trans ((hp.2 34 (by decide)).symm.trans ah)); exact h))
    exact steps_nil
   intro ea cz gJ f3 gV e5 eN bT
   obtain ⟨c7, c9, da⟩ := kt3 e5 aJ aK b7
   obtain ⟨⟨⟨J, y⟩, (cq : cz.eval (.tmp 34) = sl J P y), (bc : RwO ea 417 [] gJ 5 R5 J y P)⟩, (aW : ∀ (J : Option Addr) (y : Nat), cz.eval (.tmp 34) = sl J P y → cz.eval (.tmp 3) = sl J P y), -⟩ := eN [5, 6] rfl
   have c8 := aW _ _ cq
   have ex := es_ cJ bT
   have bd := be_ bT X
   have bb := re_ bT H
   refine fl _ _ ?_
   refine fk _ _ ?_
   refine rq 83 ea (bz 3) [dv [] [5] 27 (Zi V), dv [0] [] 28 (Zi (ad V 1)), dv [1] [] 5 (Zi (ad V 1))] gV f3 ?_ ?_
   ·exact sM da <| sF (fun f => or_add f.1 rfl rfl) <| sA <| steps_nil
   intro gx ic ir f4 gW e6 eO aO
   obtain ⟨db, dc, dd⟩ := kt3 e6 c7 c8 c9
   have de := gv (eO [2] rfl) rfl
   have ey := es_ ex aO
   have bg := be_ aO bd
   have be := re_ aO bb
   have bf := re_ aO bc
   exact fi _ _ _ o ⟨(rl [(417, 391)] gx), J, y, f4, gW, db, dc, dd, de, (Evo.rl_ ey (fun _ => Nat.le_refl 0) rfl), (BlkO.rl_ bg), (RwO.rl_ bf), (RwO.rl_ be)⟩
  refine fl_exit ?_
  refine fw _ _ _ rfl ?_
  replace o := gT _ o
  refine fv _ _ _ rfl ?_
  refine fJ _ _ ?_
  refine fh _ _ ?_
  obtain ⟨ei, fF, o⟩ := obind o
  obtain ⟨af, fK, o⟩ := obind o
  refine rr_seq 83 [Fct.rowAt 391 [] 5 R5 ak al C] d9 [391] [0, 0, 2, 6, 14, 30, 63, 127] [dv [] [3] 35 (sl ak C al), dv [] [1] 36 (pt G 1), dv [1] [] 37 (sl j U.2 t), dv [2] [] 38 (Zi (U.2.length : Int)), dv [3] [] 39 (.int .u64 (IntKind.u64.wrap (U.2.length : Int))), ⟨[4], [], [], Fct.row 425 [] 40 5 R5 ei⟩, ⟨[0, 5, 8], [], [391], Fct.row 427 [] 41 5 R5 af⟩, ⟨[6], [], [], Fct.rel [3, 41] (fun l => ∀ (K : Option Addr) (A : Nat), l.getD 1 undef = sl K af A → l.getD 0 undef = sl K af A)⟩] em d1 (fm1 aq) ?_ ?_
  ·refine sM b6 <| sS (fun s => or_field fo43_1 (s.1.trans aJ) (by rfl)) <| sG to41 X <| sF (fun f => or_len tu41 f.1 rfl) <| sF (fun f => or_conv f.1 tn3 tn26 rfl) <| sF (fun f => or_call cf36 (args1 f.1) (ref07_Bytes_w 12 _ (IntKind.u64.wrap (U.2.length : Int))  ei fF) (post_row (m' := (look0 [(1, 425)])) (.inl (Rep.fl_flat _)) rfl rfl (fun _ => rfl))) ?_
   refine sc (fun own a wx hf aj hE => ?_) ?_
   ·obtain ⟨gn, ⟨⟨hP, hl⟩, go, cR⟩, aI, -⟩ := hf
    exact px (or_append (R := R5) (lab := 391) (lab2 := 427) (L := []) (L3 := []) tp22 gn aI (by decide) go (RwO.rd cR) fK (by decide) (by decide) (mem_of rfl) (.inl (Rep.fl_flat _)))
   refine sc (fun own a wx hf aj hE => ?_) ?_
   ·obtain ⟨⟨⟨K, A⟩, (cr : a.eval (.tmp 41) = sl K af A), hg⟩, -⟩ := hf
    exact px (or_mono (f := Fct.val 3 (sl K af A)) (or_assign cr) (fun O a' w' v' hp h => fun _ _ ah => by cases (cr.symm.trans ((hp.2 41 (by decide)).symm.trans ah)); exact h))
   exact steps_nil
  intro eb cA gK f5 gX e7 eP bU
  obtain ⟨df, dh⟩ := kt2 e7 aJ aK
  obtain ⟨⟨⟨K, A⟩, (cr : cA.eval (.tmp 41) = sl K af A), (bi : RwO eb 427 [] gK 5 R5 K A af)⟩, (aW : ∀ (K : Option Addr) (A : Nat), cA.eval (.tmp 41) = sl K af A → cA.eval (.tmp 3) = sl K af A), -⟩ := eP [6, 7] rfl
  have dg := aW _ _ cr
  have ez := es_ cJ bU
  have bj := be_ bU X
  have bh := re_ bU H
  refine fl_seq (fun hX fm hA => ?_)
  refine rq_seq 83 eb (bz 1) [dv [] [] 6 (Zi 0)] gX f5 ?_ ?_
  ·exact sO (or_assign rfl) <| steps_nil
  intro gy id it f6 gY e8 eQ aP
  obtain ⟨di, dj, dk⟩ := kt3 e8 df dg dh
  have dl := gv (eQ [0] rfl) rfl
  have eA := es_ ez aP
  have bm := be_ aP bj
  have bk := re_ aP bh
  have bl := re_ aP bi
  refine fl_block (fun hY hu fL hB => ?_)
  refine fl_loop (body := (fun s => ref27_Bytes_b2 U c s.1 s.2)) (z := r) (show loopO _ _ = _ from o) (fun (s : (List Int) × Int) a wx => match s with | (S, u) => ∃ (ox : Own) (an : Option Addr) (aB : Nat), a.defers = [] ∧ a.tmps.size = 83 ∧ a.eval (.tmp 1) = pt G 0 ∧ a.eval (.tmp 3) = sl an S aB ∧ a.eval (.tmp 4) = sl i c d ∧ a.eval (.tmp 6) = Zi u ∧ Evo [] (fun _ => 0) ox w wx ∧ BlkO ox 348 wx G 43 #[.string U.1, sl j U.2 t] ∧ RwO ox 517 [] wx 5 R5 an aB S ∧ RwO ox 360 [] wx 9 R9 i d c) ?_ ?_
  ·exact ⟨(rl [(427, 517)] gy), K, A, f6, gY, di, dj, dk, dl, (Evo.rl_ eA (fun _ => Nat.le_refl 0) rfl), (BlkO.rl_ bm), (RwO.rl_ bl), (RwO.rl_ bk)⟩
  ·rintro ⟨S, u⟩ cN ie iu ⟨gz, an, aB, f7, g0, b8, dm, dn, b9, er, ar, bo, bn⟩ o hZ fn fx gZ
   have o : ref27_Bytes_b2 U c S u = some cN := o
   refine fl_seq (fun h0 fo fy => ?_)
   refine rq_seq 83 gz [0, 0, 2, 6, 15] [dv [] [6] 42 (Zi u), dv [] [1] 43 (pt G 1), dv [1] [] 44 (sl j U.2 t), dv [2] [] 45 (Zi (U.2.length : Int)), dv [0, 3] [] 46 (.bool (decide (u < (U.2.length : Int))))] g0 f7 ?_ ?_
   ·exact sM b9 <| sS (fun s => or_field fo43_1 (s.1.trans b8) (by rfl)) <| sG to41 ar <| sF (fun f => or_len tu41 f.1 rfl) <| sF (fun f => or_lss f.1 f.2.1 rfl) <| steps_nil
   intro ec ig iv d2 en e9 eR aQ
   obtain ⟨ca, cb, dp, cc⟩ := kt4 e9 b8 dm dn b9
   have cE := gv (eR [4] rfl) rfl
   have aV := es_ er aQ
   have av := be_ aQ ar
   have au := re_ aQ bo
   have bp := re_ aQ bn
   refine fl_cond cE o (fun fV o => ?_) (fun fV o => ?_)
   ·refine fl_skip ?_
    refine fo _ _ ?_
    refine fl_seq (fun h2 fp hC => ?_)
    refine fl_block (fun h3 fq hJ hD => ?_)
    obtain ⟨b, bX, o⟩ := obind o
    refine rp_seq 83 ec [609] [0, 1, 0, 7, 15, 31, 0, 127] [dv [] [1] 49 (pt G 1), dv [0] [] 50 (sl j U.2 t), dv [] [6] 51 (Zi u), dv [1, 2] [] 52 (.pointer (some ((adr j).add ((u : Int).toNat * R77.s)))), dv [3] [] 53 (.pointer (some ((adr j).add ((u : Int).toNat * R77.s)))), dv [4] [] 54 (.agg #[Zi b.1.1, Zi b.1.2.1, Zi b.1.2.2]), ⟨[], [], [], Fct.blk 609 7 (fun g => pt g 0) 75 #[Zi 0, Zi 0, Zi 0]⟩, ⟨[6, 5], [], [609], Fct.blk 610 7 (fun g => pt g 0) 75 #[Zi b.1.1, Zi b.1.2.1, Zi b.1.2.2]⟩] en d2 ?_ ?_
    ·refine sS (fun s => or_field fo43_1 (s.1.trans ca) (by rfl)) <| sG to41 av <| sM cc <| sF (fun f => or_index (R := R77) (l := U.2) tl41 f.1 f.2.1 (RdO.some_ (RdO.evo rfl aV aa) bX) bX) <| sF (fun f => or_field fo77_0 f.1 (Addr.add_zero' _)) <| sFE (fun f hE => or_load (l := [Zi b.1.1, Zi b.1.2.1, Zi b.1.2.2]) ta75 f.1 (CellsAt.head_ (RdO.cells (F := E77) (RdO.evo rfl hE (RdO.evo rfl aV aa)) bX) rfl) rfl) <| sO (nw0) ?_
     refine sc (fun own a wx hf aj hE => ?_) ?_
     ·obtain ⟨⟨aH, gq, cU⟩, gp, -⟩ := hf
      exact px (or_store (l := #[Zi b.1.1, Zi b.1.2.1, Zi b.1.2.2]) (lab := 609) (lab2 := 610) ts75 gq gp cU (by simp) (by kernel_rfl) (mem_of rfl) (by decide) (by kernel_rfl) (fun O a' w' ha hb => ⟨_, (ha 7).trans gq, hb⟩))
     exact steps_nil
    intro ed fT gL f8 g1 fa eS aR
    obtain ⟨cd, dq, ce, cf⟩ := kt4 fa ca cb dp cc
    obtain ⟨⟨aH, (aL : fT.eval (.tmp 7) = pt aH 0), (Y : BlkO ed 610 gL aH 75 #[Zi b.1.1, Zi b.1.2.1, Zi b.1.2.2])⟩, -⟩ := eS [7] rfl
    have bV := es_ aV aR
    have ax := be_ aR av
    have bq := re_ aR au
    have aw := re_ aR bp
    obtain ⟨el, bY, o⟩ := obind o
    obtain ⟨p, fG, o⟩ := obind o
    refine rd_seq g_mixed 83 [] ed [] [0, 1, 0, 4, 0, 16, 0, 0, 128, 0, 896, 1920, 3968, 8128, 16383, 32767] [dv [] [7] 55 (pt aH 0), dv [0] [] 56 (Zi b.1.1), dv [] [7] 57 (pt aH 1), dv [2] [] 58 (Zi b.1.2.1), dv [] [7] 59 (pt aH 2), dv [4] [] 60 (Zi b.1.2.2), dv [] [4] 61 (sl i c d), dv [] [1] 62 (pt G 1), dv [7] [] 63 (sl j U.2 t), dv [] [6] 64 (Zi u), dv [8, 9] [] 65 (.pointer (some ((adr j).add ((u : Int).toNat * R77.s)))), dv [10] [] 66 (.pointer (some (((adr j).add ((u : Int).toNat * R77.s)).add 3))), dv [11] [] 67 (.string el.2), dv [6, 12] [] 68 (Zi p), ⟨[1, 3, 5, 13], [], [], Fct.row 615 [] 69 3 R3 [b.1.1, b.1.2.1, b.1.2.2, p]⟩, ⟨[14], [], [], Fct.rel [8, 69] (fun l => ∀ (D : Option Addr) (k : Nat), l.getD 1 undef = .slice D [b.1.1, b.1.2.1, b.1.2.2, p].length k → l.getD 0 undef = .slice D [b.1.1, b.1.2.1, b.1.2.2, p].length k)⟩] g1 f8 nm_ ?_ ?_
    ·refine sS (fun s => or_field fo75_0 (s.1.trans aL) (by rfl)) <| sG to3 Y <| sS (fun s => or_field fo75_1 (s.1.trans aL) (by rfl)) <| sG to3 Y <| sS (fun s => or_field fo75_2 (s.1.trans aL) (by rfl)) <| sG to3 Y <| sM ce <| sS (fun s => or_field fo43_1 (s.1.trans cd) (by rfl)) <| sG to41 ax <| sM cf <| sF (fun f => or_index (R := R77) (l := U.2) tl41 f.1 f.2.1 (RdO.some_ (RdO.evo rfl bV aa) bY) bY) <| sF (fun f => or_field fo77_1 f.1 rfl) <| sFE (fun f hE => or_load1 to9 f.1 (CellsAt.one (RdO.cells (F := E77) (RdO.evo rfl hE (RdO.evo rfl bV aa)) bY) rfl)) <| sFE (fun f hE => or_call cf37 (args2 f.1 f.2.1) (ref27_place_w _ c i d el.2 (RdO.zero (RwO.rd (re_ hE aw))) p fG) post_val) <| sF (fun f => or_lit (lab := 615) (e := 3) (cs := #[Zi b.1.1, Zi b.1.2.1, Zi b.1.2.2, Zi p]) (F := E3) (nw4 f.1 f.2.1 f.2.2.1 f.2.2.2.1) rfl rfl (show 4 ≤ maxLen by decide)) ?_
     refine sc (fun own a wx hf aj hE => ?_) ?_
     ·obtain ⟨⟨⟨D, k⟩, (ct : a.eval (.tmp 69) = .slice D [b.1.1, b.1.2.1, b.1.2.2, p].length k), hh⟩, -⟩ := hf
      exact px (or_mono (f := Fct.val 8 (.slice D [b.1.1, b.1.2.1, b.1.2.2, p].length k)) (or_assign ct) (fun O a' w' v' hp h => fun _ _ ah => by cases (ct.symm.trans ((hp.2 69 (by decide)).symm.trans ah)); exact h))
     exact steps_nil
    intro ee cB gM f9 g2 fb eT aS
    obtain ⟨dr, ds, dt, du⟩ := kt4 fb cd dq ce cf
    obtain ⟨⟨⟨D, k⟩, (ct : cB.eval (.tmp 69) = .slice D [b.1.1, b.1.2.1, b.1.2.2, p].length k), (bt : RwO ee 615 [] gM 3 R3 D k [b.1.1, b.1.2.1, b.1.2.2, p])⟩, (hM : ∀ (D : Option Addr) (k : Nat), cB.eval (.tmp 69) = .slice D [b.1.1, b.1.2.1, b.1.2.2, p].length k → cB.eval (.tmp 8) = .slice D [b.1.1, b.1.2.1, b.1.2.2, p].length k), -⟩ := eT [14, 15] rfl
    have dw := hM _ _ ct
    have eB := es_ bV aS
    have bu := be_ aS ax
    have bs := re_ aS bq
    have br := re_ aS aw
    refine rq_seq 83 ee (bz 1) [dv [] [] 9 (Zi 0)] g2 f9 ?_ ?_
    ·exact sO (or_assign rfl) <| steps_nil
    intro gA ih iw ga g3 fc eU aC
    obtain ⟨dx, dy, dz, dA, dB⟩ := kt5 fc dr ds dt du dw
    have dC := gv (eU [0] rfl) rfl
    have eC := es_ eB aC
    have bA := be_ aC bu
    have bw := re_ aC bs
    have bv := re_ aC br
    have bx := re_ aC bt
    refine fl_block (fun h4 hv fM hF => ?_)
    refine fl_loop (body := (fun s => ref27_Bytes_b3 u b p s.1 s.2)) (z := cN) (show loopO _ _ = _ from o) (fun (s : (List Int) × Int) a wx => match s with | (T, W) => ∃ (ox : Own) (aF : Option Addr) (aG : Nat), a.defers = [] ∧ a.tmps.size = 83 ∧ a.eval (.tmp 1) = pt G 0 ∧ a.eval (.tmp 3) = sl aF T aG ∧ a.eval (.tmp 4) = sl i c d ∧ a.eval (.tmp 6) = Zi u ∧ a.eval (.tmp 8) = .slice D [b.1.1, b.1.2.1, b.1.2.2, p].length k ∧ a.eval (.tmp 9) = Zi W ∧ Evo [] (fun _ => 0) ox w wx ∧ BlkO ox 348 wx G 43 #[.string U.1, sl j U.2 t] ∧ RwO ox 640 [] wx 5 R5 aF aG T ∧ RwO ox 360 [] wx 9 R9 i d c ∧ RwO ox 615 [] wx 3 R3 D k [b.1.1, b.1.2.1, b.1.2.2, p]) ?_ ?_
    ·exact ⟨(rl [(517, 640)] gA), an, aB, ga, g3, dx, dy, dz, dA, dB, dC, (Evo.rl_ eC (fun _ => Nat.le_refl 0) rfl), (BlkO.rl_ bA), (RwO.rl_ bw), (RwO.rl_ bv), (RwO.rl_ bx)⟩
    ·rintro ⟨T, W⟩ fP ii ix ⟨gB, aF, aG, gb, g5, dD, dE, dF, dG, dH, cg, es, bE, bD, bB, bC⟩ o h5 fr fz g4
     have o : ref27_Bytes_b3 u b p T W = some fP := o
     refine fl_seq (fun h6 fs fA => ?_)
     refine rq_seq 83 gB (bz 2) [dv [] [9] 70 (Zi W), dv [0] [] 71 (.bool (decide (W < 4)))] g5 gb ?_ ?_
     ·exact sM cg <| sF (fun f => or_lss f.1 rfl rfl) <| steps_nil
     intro ef ij iy d3 eo fd eV aD
     obtain ⟨ch, ci, cj, ck, cl, cm⟩ := kt6 fd dD dE dF dG dH cg
     have cF := gv (eV [1] rfl) rfl
     have cK := es_ es aD
     have aA := be_ aD bE
     have az := re_ aD bD
     have ay := re_ aD bB
     have Z := re_ aD bC
     refine fl_cond cF o (fun fW o => ?_) (fun fW o => ?_)
     ·refine fl_skip ?_
      refine fs _ _ ?_
      refine fl_seq (fun h7 ft hG => ?_)
      refine fl_block (fun h8 fu hK hH => ?_)
      obtain ⟨cM, bZ, o⟩ := obind o
      obtain ⟨ej, fH, o⟩ := obind o
      obtain ⟨ag, fN, o⟩ := obind o
      refine rr 83 [Fct.rowAt 640 [] 5 R5 aF aG T] ef [640] [0, 0, 0, 6, 14, 30, 62, 127, 255] [dv [] [3] 74 (sl aF T aG), dv [] [8] 75 (.slice D [b.1.1, b.1.2.1, b.1.2.2, p].length k), dv [] [9] 76 (Zi W), dv [1, 2] [] 77 (.pointer (some ((adr D).add ((W : Int).toNat * R3.s)))), dv [3] [] 78 (Zi cM), dv [4] [] 79 (.int .u64 (IntKind.u64.wrap cM)), ⟨[5], [], [], Fct.row 675 [] 80 5 R5 ej⟩, ⟨[0, 6, 9], [], [640], Fct.row 677 [] 81 5 R5 ag⟩, ⟨[7], [], [], Fct.rel [3, 81] (fun l => ∀ (M : Option Addr) (B : Nat), l.getD 1 undef = sl M ag B → l.getD 0 undef = sl M ag B)⟩] eo d3 (fm1 az) ?_ ?_
      ·refine sM ci <| sM cl <| sM cm <| sF (fun f => or_index (R := R3) (l := [b.1.1, b.1.2.1, b.1.2.2, p]) tl84 f.1 f.2.1 (RdO.some_ (RwO.rd Z) bZ) bZ) <| sFE (fun f hE => or_load1 to3 f.1 (CellsAt.zero (RdO.cells (F := E3) (RwO.rd (re_ hE Z)) bZ) rfl)) <| sF (fun f => or_conv f.1 tn3 tn26 rfl) <| sF (fun f => or_call cf36 (args1 f.1) (ref07_Bytes_w 12 _ (IntKind.u64.wrap cM)  ej fH) (post_row (m' := (look0 [(1, 675)])) (.inl (Rep.fl_flat _)) rfl rfl (fun _ => rfl))) ?_
       refine sc (fun own a wx hf aj hE => ?_) ?_
       ·obtain ⟨gr, ⟨⟨hQ, hm⟩, gs, cT⟩, cS, -⟩ := hf
        exact px (or_append (R := R5) (lab := 640) (lab2 := 677) (L := []) (L3 := []) tp22 gr cS (by decide) gs (RwO.rd cT) fN (by decide) (by decide) (mem_of rfl) (.inl (Rep.fl_flat _)))
       refine sc (fun own a wx hf aj hE => ?_) ?_
       ·obtain ⟨⟨⟨M, B⟩, (cu : a.eval (.tmp 81) = sl M ag B), hi⟩, -⟩ := hf
        exact px (or_mono (f := Fct.val 3 (sl M ag B)) (or_assign cu) (fun O a' w' v' hp h => fun _ _ ah => by cases (cu.symm.trans ((hp.2 81 (by decide)).symm.trans ah)); exact h))
       exact steps_nil
      intro eg cC gN gc g6 fe eW aT
      obtain ⟨dI, dK, dL, dM, dN⟩ := kt5 fe ch cj ck cl cm
      obtain ⟨⟨⟨M, B⟩, (cu : cC.eval (.tmp 81) = sl M ag B), (bH : RwO eg 677 [] gN 5 R5 M B ag)⟩, (aW : ∀ (M : Option Addr) (B : Nat), cC.eval (.tmp 81) = sl M ag B → cC.eval (.tmp 3) = sl M ag B), -⟩ := eW [7, 8] rfl
      have dJ := aW _ _ cu
      have eD := es_ cK aT
      have bI := be_ aT aA
      have bF := re_ aT ay
      have bG := re_ aT Z
      refine fu _ _ ?_
      refine ft _ _ ?_
      refine rq 83 eg (bz 3) [dv [] [9] 72 (Zi W), dv [0] [] 73 (Zi (ad W 1)), dv [1] [] 9 (Zi (ad W 1))] g6 gc ?_ ?_
      ·exact sM dN <| sF (fun f => or_add f.1 rfl rfl) <| sA <| steps_nil
      intro gC ik iz gd g7 ff eX aE
      obtain ⟨dO, dP, dQ, dR, dS⟩ := kt5 ff dI dJ dK dL dM
      have dT := gv (eX [2] rfl) rfl
      have eE := es_ eD aE
      have bM := be_ aE bI
      have bJ := re_ aE bF
      have bK := re_ aE bG
      have bL := re_ aE bH
      exact fr _ _ _ o ⟨(rl [(677, 640)] gC), M, B, gd, g7, dO, dP, dQ, dR, dS, dT, (Evo.rl_ eE (fun _ => Nat.le_refl 0) rfl), (BlkO.rl_ bM), (RwO.rl_ bL), (RwO.rl_ bJ), (RwO.rl_ bK)⟩
     refine fl_exit ?_
     refine fA _ _ _ rfl ?_
     replace o := g4 _ o
     refine fz _ _ _ rfl ?_
     refine fM _ _ ?_
     refine fq _ _ ?_
     refine fp _ _ ?_
     refine rq 83 ef (bz 3) [dv [] [6] 47 (Zi u), dv [0] [] 48 (Zi (ad u 1)), dv [1] [] 6 (Zi (ad u 1))] eo d3 ?_ ?_
     ·exact sM ck <| sF (fun f => or_add f.1 rfl rfl) <| sA <| steps_nil
     intro gD il iA ge g8 fg eY aU
     obtain ⟨dU, dV, dW⟩ := kt3 fg ch ci cj
     have dX := gv (eY [2] rfl) rfl
     have eF := es_ cK aU
     have bP := be_ aU aA
     have bO := re_ aU az
     have bN := re_ aU ay
     exact fn _ _ _ o ⟨(rl [(640, 517)] gD), aF, aG, ge, g8, dU, dV, dW, dX, (Evo.rl_ eF (fun _ => Nat.le_refl 0) rfl), (BlkO.rl_ bP), (RwO.rl_ bO), (RwO.rl_ bN)⟩
   refine fl_exit ?_
   refine fy _ _ _ rfl ?_
   replace o := gZ _ o
   refine fx _ _ _ rfl ?_
   refine fL _ _ ?_
   refine fm _ _ ?_
   refine rq_seq 83 ec (bz 2) [dv [] [3] 82 (sl an S aB), dv [0] [] 2 (sl an S aB)] en d2 ?_ ?_
   ·exact sM cb <| sA <| steps_nil
   intro gE im iB gf iC hr eZ cH
   have dY := gv (eZ [1] rfl) rfl
   have eG := es_ aV cH
   have bQ := re_ cH au
   refine fl_ret ?_
   obtain rfl := (osome o).symm
   exact gt _ _ _ _ (.inl rfl) gf (results1_ rfl (RVal.tmp_ dY)) ⟨(rl [(517, 1)] gE), (an, aB), rfl, (Evo.rl_ eG (fun _ => Nat.le_refl 0) rfl), (RwO.rl_ bQ)⟩
theorem law27_PackWrites_w (w : World) (H : List Int) (W : Option Addr) (X : Nat) (l2 : List ((Int × Int × Int) × (List Int))) (bV : Option Addr) (bZ : Nat) (t3 : Int × Int × Int) (cb : RdO (fun _ => 0) [0] w R5 W X H) (er : RdO (fun _ => 0) [0] w R30 bV bZ l2) (r : Bool) (y : law27_PackWrites H l2 t3 = some r) :
  Calls Try.prog 5 #[sl W H X, sl bV l2 bZ, .agg #[Zi t3.1, Zi t3.2.1, Zi t3.2.2]] w fun e w' => ∃ q : Own, e = .returned (.bool r) ∧ Evo [] (fun _ => 0) q w w' := by
 refine fl_enter (n := 71) rfl rfl rfl (Nat.le_of_ble_eq_true rfl) ?_
 intro a0 Q d0 z0 aU aV
 have ek := aU 0 _ rfl
 have el := aU 1 _ rfl
 have em := aU 2 _ rfl
 clear aU
 have ej : Evo [] (fun _ => 0) (fun _ => 0) w w := Evo.refl _ _ _
 refine rq_seq 71 (fun _ => 0) [0, 0] [⟨[], [2], [], Fct.blk 75 5 (fun g => pt g 0) 28 #[Zi t3.1, Zi t3.2.1, Zi t3.2.2]⟩, dv [] [] 6 (.bool false)] z0 d0 ?_ ?_
 ·exact sS (fun s => nw1 (s.1.trans em)) <| sO (or_assign rfl) <| steps_nil
 intro dZ ec ev ef ex dI dG dC
 obtain ⟨bA, cq⟩ := kt2 dI ek el
 obtain ⟨⟨dB, (cr : ec.eval (.tmp 5) = pt dB 0), (bf : BlkO dZ 75 ev dB 28 #[Zi t3.1, Zi t3.2.1, Zi t3.2.2])⟩, -⟩ := dG [0] rfl
 have bL := es_ ej dC
 obtain ⟨V, dS, y⟩ := obind y
 obtain ⟨S, dO, y⟩ := obind y
 refine rd_seq g_mixed 71 [] dZ [] [0, 0, 2, 6, 15, 0, 32, 127, 255] [dv [] [0] 13 (sl W H X), dv [] [0] 14 (sl W H X), dv [1] [] 15 (Zi (H.length : Int)), dv [2] [] 16 (Zi (mn (H.length : Int) 30)), ⟨[0, 3], [], [], Fct.view [0] 17 R5 V⟩, dv [] [1] 18 (sl bV l2 bZ), ⟨[5], [], [], Fct.mems [81, 82, 83, 0] 19 (fun (x : Option Addr × Nat) => .slice x.1 S.length x.2) (fun (x : Option Addr × Nat) own w => RwO own 81 [82, 83, 0] w 30 R30 x.1 x.2 S) (fun hk he h => RwO.evo (hits_sub hk (by decide)) he h)⟩, ⟨[4], [], [], Fct.rel [0, 17] (fun l => ∀ (T : Option Addr) (z : Nat), l.getD 1 undef = sl T V z → l.getD 0 undef = sl T V z)⟩, ⟨[6], [], [], Fct.rel [1, 19] (fun l => ∀ (M : Option Addr) (t : Nat), l.getD 1 undef = sl M S t → l.getD 0 undef = sl M S t)⟩] ex ef nm_ ?_ ?_
 ·refine sM bA <| sM bA <| sF (fun f => or_len tu22 f.1 rfl) <| sF (fun f => or_min f.1 rfl) <| sFE (fun f v => or_view (R := R5) (l := H) (L := [0]) tu22 ts5 f.1 Bnd.none_ (Bnd.some_ f.2.1) Bnd.none_ (RdO.evo rfl v (RdO.evo rfl bL cb)) dS (.inl rfl) (by simp)) <| sM cq ?_
  refine sc (fun own _ _ f _ v => px (or_call cf8 (args1 f.1) (law27_Cut_w _ (forth own (inL [0])) l2 bV bZ inL_le (RdO.alias_ (La := [0]) (RdO.evo rfl v (RdO.evo rfl bL er)) (by decide)) S dO) (post_alias (La := [0]) (m' := (look0 [(1, 82), (2, 81), (3, 83)])) (fun q w' a' x ho eY h1 h => ⟨x, h1, RwO.backM_ ho h (by decide) (by decide) (by decide) (by decide)⟩)))) ?_
  refine sc (fun own a wx A B v => ?_) ?_
  ·obtain ⟨⟨⟨T, z⟩, (aR : a.eval (.tmp 17) = sl T V z), ed⟩, -⟩ := A
   exact px (or_mono (f := Fct.val 0 (sl T V z)) (or_assign aR) (fun q a' w' v' hp h => fun _ _ u => by cases (aR.symm.trans ((hp.2 17 (by decide)).symm.trans u)); exact h))
  refine sc (fun own a wx A B v => ?_) ?_
  ·obtain ⟨⟨⟨M, t⟩, (aS : a.eval (.tmp 19) = sl M S t), ee⟩, -⟩ := A
   exact px (or_mono (f := Fct.val 1 (sl M S t)) (or_assign aS) (fun q a' w' v' hp h => fun _ _ u => by cases (aS.symm.trans ((hp.2 19 (by decide)).symm.trans u)); exact h))
  exact steps_nil
 intro de a1 d6 eg ey dJ dH ce
 have cs := kt dJ cr
 obtain ⟨⟨⟨T, z⟩, (aR : a1.eval (.tmp 17) = sl T V z), (az : RdO de [0] d6 R5 T z V)⟩, (es : ∀ (T : Option Addr) (z : Nat), a1.eval (.tmp 17) = sl T V z → a1.eval (.tmp 0) = sl T V z), ⟨⟨M, t⟩, (aS : a1.eval (.tmp 19) = sl M S t), (aA : RwO de 81 [82, 83, 0] d6 30 R30 M t S)⟩, (et : ∀ (M : Option Addr) (t : Nat), a1.eval (.tmp 19) = sl M S t → a1.eval (.tmp 1) = sl M S t), -⟩ := dH [4, 7, 6, 8] rfl
 have bB := es _ _ aR
 have bC := et _ _ aS
 have dD := es_ bL ce
 have bg := be_ ce bf
 obtain ⟨j, dP, y⟩ := obind y
 refine rq_seq 71 de [0, 0, 3, 7, 15, 15, 31, 127] [dv [] [0] 21 (sl T V z), dv [] [1] 22 (sl M S t), ⟨[0, 1], [], [], Fct.mems [87] 23 (fun (x : Option Addr × Nat) => .tuple #[.slice x.1 j.1.length x.2, Zi j.2]) (fun (x : Option Addr × Nat) own w => RwO own 87 [] w 5 R5 x.1 x.2 j.1) (fun hk he h => RwO.evo (hits_sub hk (by decide)) he h)⟩, ⟨[2], [], [], Fct.rel [20, 23] (fun l => ∀ (o : Option Addr) (d : Nat), l.getD 1 undef = .tuple #[sl o j.1 d, Zi j.2] → l.getD 0 undef = .tuple #[sl o j.1 d, Zi j.2])⟩, ⟨[3, 2], [], [], Fct.rel [24, 23] (fun l => ∀ (o : Option Addr) (d : Nat), l.getD 1 undef = .tuple #[sl o j.1 d, Zi j.2] → l.getD 0 undef = sl o j.1 d)⟩, dv [3, 2] [] 25 (Zi j.2), ⟨[4, 2], [], [], Fct.rel [7, 23] (fun l => ∀ (o : Option Addr) (d : Nat), l.getD 1 undef = .tuple #[sl o j.1 d, Zi j.2] → l.getD 0 undef = sl o j.1 d)⟩, dv [5] [] 8 (Zi j.2)] ey eg ?_ ?_
 ·refine sM bB <| sM bC <| sFE (fun f v => or_call cf10 (args2 f.1 f.2.1) (pack_Write_w _ V T z S M t (RdO.zero (RdO.evo rfl v az)) (RdO.zero (RwO.rd (re_ v aA))) j dP) (post_mems (m := (fun _ => 0)) (m' := (look0 [(1, 87)])) (fun _ _ => .inl rfl) (fun q w' a' x h1 h => ⟨x, h1, RwO.back_ h (by decide) (.inl (Rep.fl_flat _))⟩))) ?_
  refine sc (fun own a wx A B v => ?_) ?_
  ·obtain ⟨⟨⟨o, d⟩, (C : a.eval (.tmp 23) = .tuple #[sl o j.1 d, Zi j.2]), aI⟩, -⟩ := A
   exact px (or_mono (f := Fct.val 20 (.tuple #[sl o j.1 d, Zi j.2])) (or_move C) (fun q a' w' v' hp h => fun _ _ u => by cases (C.symm.trans ((hp.2 23 (by decide)).symm.trans u)); exact h))
  refine sc (fun own a wx A B v => ?_) ?_
  ·obtain ⟨(bP : ∀ (o : Option Addr) (d : Nat), a.eval (.tmp 23) = .tuple #[sl o j.1 d, Zi j.2] → a.eval (.tmp 20) = .tuple #[sl o j.1 d, Zi j.2]), ⟨⟨o, d⟩, (C : a.eval (.tmp 23) = .tuple #[sl o j.1 d, Zi j.2]), aI⟩, -⟩ := A
   have bD := bP _ _ C
   exact px (or_mono (f := Fct.val 24 (sl o j.1 d)) (ok1 bD) (fun q a' w' v' hp h => fun _ _ u => by cases (C.symm.trans ((hp.2 23 (by decide)).symm.trans u)); exact h))
  refine sc (fun own a wx A B v => ?_) ?_
  ·obtain ⟨(bP : ∀ (o : Option Addr) (d : Nat), a.eval (.tmp 23) = .tuple #[sl o j.1 d, Zi j.2] → a.eval (.tmp 20) = .tuple #[sl o j.1 d, Zi j.2]), ⟨⟨o, d⟩, C, aI⟩, -⟩ := A
   have bD := bP _ _ C
   exact px (ok1 bD)
  refine sc (fun own a wx A B v => ?_) ?_
  ·obtain ⟨(d3 : ∀ (o : Option Addr) (d : Nat), a.eval (.tmp 23) = .tuple #[sl o j.1 d, Zi j.2] → a.eval (.tmp 24) = sl o j.1 d), ⟨⟨o, d⟩, (C : a.eval (.tmp 23) = .tuple #[sl o j.1 d, Zi j.2]), aI⟩, -⟩ := A
   have du := d3 _ _ C
   exact px (or_mono (f := Fct.val 7 (sl o j.1 d)) (or_assign du) (fun q a' w' v' hp h => fun _ _ u => by cases (C.symm.trans ((hp.2 23 (by decide)).symm.trans u)); exact h))
  exact sA <| steps_nil
 intro d1 ck ew eh ez dK cf aT
 obtain ⟨ct, cu, cv⟩ := kt3 dK bB bC cs
 have cx := gv (cf [7] rfl) rfl
 obtain ⟨⟨⟨o, d⟩, (C : ck.eval (.tmp 23) = .tuple #[sl o j.1 d, Zi j.2]), (bj : RwO d1 87 [] ew 5 R5 o d j.1)⟩, (eu : ∀ (o : Option Addr) (d : Nat), ck.eval (.tmp 23) = .tuple #[sl o j.1 d, Zi j.2] → ck.eval (.tmp 7) = sl o j.1 d), -⟩ := cf [2, 6] rfl
 have cw := eu _ _ C
 have dE := es_ dD aT
 have bk := be_ aT bg
 have bh := RdO.evo rfl aT az
 have bi := re_ aT aA
 obtain ⟨dg, dQ, y⟩ := obind y
 obtain ⟨b, dR, y⟩ := obind y
 refine rd_seq g_mixed 71 [] d1 [96] [0, 1, 0, 4, 15, 31, 63, 63, 0, 383, 1023] [dv [] [0] 27 (sl T V z), dv [0] [] 28 (.string (bsS V)), dv [] [1] 29 (sl M S t), ⟨[2], [], [], Fct.row 91 [] 30 77 R77 dg⟩, ⟨[1, 3], [], [], Fct.mems [94] 31 (fun (x : Option Addr × Nat) => .tuple #[.agg #[.string b.1.1, .slice x.1 b.1.2.length x.2], Zi b.2]) (fun (x : Option Addr × Nat) own w => RwO own 94 [] w 77 R77 x.1 x.2 b.1.2) (fun hk he h => RwO.evo (hits_sub hk (by decide)) he h)⟩, ⟨[4], [], [], Fct.rel [26, 31] (fun l => ∀ (p : Option Addr) (i : Nat), l.getD 1 undef = .tuple #[.agg #[.string b.1.1, sl p b.1.2 i], Zi b.2] → l.getD 0 undef = .tuple #[.agg #[.string b.1.1, sl p b.1.2 i], Zi b.2])⟩, ⟨[5, 4], [], [], Fct.rel [32, 31] (fun l => ∀ (p : Option Addr) (i : Nat), l.getD 1 undef = .tuple #[.agg #[.string b.1.1, sl p b.1.2 i], Zi b.2] → l.getD 0 undef = .agg #[.string b.1.1, sl p b.1.2 i])⟩, dv [5, 4] [] 33 (Zi b.2), ⟨[], [], [], Fct.blk 96 9 (fun g => pt g 0) 43 #[.string ByteArray.empty, .slice none 0 0]⟩, ⟨[8, 6, 4], [], [96], Fct.by_ [97] [9, 31] (fun l own w => ∃ bb : Nat, l.getD 0 undef = pt bb 0 ∧ (∀ (p : Option Addr) (i : Nat), l.getD 1 undef = .tuple #[.agg #[.string b.1.1, sl p b.1.2 i], Zi b.2] → BlkO own 97 w bb 43 #[.string b.1.1, sl p b.1.2 i])) (fun hk he h => by obtain ⟨g, e, h⟩ := h; exact ⟨g, e, fun _ _ u => BlkO.evo (not_hit hk (by decide)) he (h _ _ u)⟩)⟩, dv [7] [] 10 (Zi b.2)] ez eh nm_ ?_ ?_
 ·refine sM ct <| sFE (fun f v => or_convBS tu22 tn5 tS9 f.1 (RdO.evo rfl v bh)) <| sM cu <| sFE (fun f v => or_call cf16 (args1 f.1) (law27_Ofs_w _ S M t (RdO.zero (RwO.rd (re_ v bi))) dg dQ) (post_row (m' := (look0 [(1, 91)])) (.inl (Rep.fl_flat _)) rfl rfl (fun _ => rfl))) ?_
  refine sc (fun own a wx A B v => ?_) ?_
  ·obtain ⟨dw, ⟨⟨eb, dm⟩, dx, cm⟩, -⟩ := A
   exact px (or_call cf15 (args2 dw dx) (ref27_Of_w _ (bsS V) dg eb dm (RdO.zero (RwO.rd cm)) b dR) (post_mems (m := (fun _ => 0)) (m' := (look0 [(1, 94)])) (fun _ _ => .inl rfl) (fun q w' a' x h1 h => ⟨x, h1, RwO.back_ h (by decide) (.inl (Rep.fl_flat _))⟩)))
  refine sc (fun own a wx A B v => ?_) ?_
  ·obtain ⟨⟨⟨p, i⟩, (D : a.eval (.tmp 31) = .tuple #[.agg #[.string b.1.1, sl p b.1.2 i], Zi b.2]), aJ⟩, -⟩ := A
   exact px (or_mono (f := Fct.val 26 (.tuple #[.agg #[.string b.1.1, sl p b.1.2 i], Zi b.2])) (or_move D) (fun q a' w' v' hp h => fun _ _ u => by cases (D.symm.trans ((hp.2 31 (by decide)).symm.trans u)); exact h))
  refine sc (fun own a wx A B v => ?_) ?_
  ·obtain ⟨(bQ : ∀ (p : Option Addr) (i : Nat), a.eval (.tmp 31) = .tuple #[.agg #[.string b.1.1, sl p b.1.2 i], Zi b.2] → a.eval (.tmp 26) = .tuple #[.agg #[.string b.1.1, sl p b.1.2 i], Zi b.2]), ⟨⟨p, i⟩, (D : a.eval (.tmp 31) = .tuple #[.agg #[.string b.1.1, sl p b.1.2 i], Zi b.2]), aJ⟩, -⟩ := A
   have bE := bQ _ _ D
   exact px (or_mono (f := Fct.val 32 (.agg #[.string b.1.1, sl p b.1.2 i])) (ok1 bE) (fun q a' w' v' hp h => fun _ _ u => by cases (D.symm.trans ((hp.2 31 (by decide)).symm.trans u)); exact h))
  refine sc (fun own a wx A B v => ?_) ?_
  ·obtain ⟨(bQ : ∀ (p : Option Addr) (i : Nat), a.eval (.tmp 31) = .tuple #[.agg #[.string b.1.1, sl p b.1.2 i], Zi b.2] → a.eval (.tmp 26) = .tuple #[.agg #[.string b.1.1, sl p b.1.2 i], Zi b.2]), ⟨⟨p, i⟩, D, aJ⟩, -⟩ := A
   have bE := bQ _ _ D
   exact px (ok1 bE)
  refine sO (nw0) ?_
  refine sc (fun own a wx A B v => ?_) ?_
  ·obtain ⟨⟨bb, dA, cn⟩, (d4 : ∀ (p : Option Addr) (i : Nat), a.eval (.tmp 31) = .tuple #[.agg #[.string b.1.1, sl p b.1.2 i], Zi b.2] → a.eval (.tmp 32) = .agg #[.string b.1.1, sl p b.1.2 i]), ⟨⟨p, i⟩, (D : a.eval (.tmp 31) = .tuple #[.agg #[.string b.1.1, sl p b.1.2 i], Zi b.2]), aJ⟩, -⟩ := A
   have dy := d4 _ _ D
   exact px (or_store (l := #[.string b.1.1, sl p b.1.2 i]) (lab := 96) (lab2 := 97) ts43 dA dy cn (by simp) (by kernel_rfl) (mem_of rfl) (by decide) (by kernel_rfl) (fun q a' w' ha hb => ⟨_, (ha 9).trans dA, fun _ _ u => by cases (D.symm.trans ((ha 31).symm.trans u)); exact hb⟩))
  exact sA <| steps_nil
 intro df cl d7 ei eA dL cg bJ
 obtain ⟨cy, cz, cA⟩ := kt3 dL cv cw cx
 have aQ := gv (cg [10] rfl) rfl
 obtain ⟨⟨⟨p, i⟩, (D : cl.eval (.tmp 31) = .tuple #[.agg #[.string b.1.1, sl p b.1.2 i], Zi b.2]), (bm : RwO df 94 [] d7 77 R77 p i b.1.2)⟩, ⟨bb, (cB : cl.eval (.tmp 9) = pt bb 0), (bY : ∀ (p : Option Addr) (i : Nat), cl.eval (.tmp 31) = .tuple #[.agg #[.string b.1.1, sl p b.1.2 i], Zi b.2] → BlkO df 97 d7 bb 43 #[.string b.1.1, sl p b.1.2 i])⟩, -⟩ := cg [4, 9] rfl
 have bo := bY _ _ D
 have dF := es_ dE bJ
 have bn := be_ bJ bk
 have bl := re_ bJ bj
 refine fl_seq (fun eV dM dN => ?_)
 refine rq_seq 71 df [0, 0, 3] [dv [] [8] 34 (Zi j.2), dv [] [10] 35 (Zi b.2), dv [0, 1] [] 36 (.bool (!decide (j.2 = b.2)))] eA ei ?_ ?_
 ·exact sM cA <| sM aQ <| sF (fun f => or_neq f.1 f.2.1 rfl) <| steps_nil
 intro ch eC eK cd cj cU cN ar
 obtain ⟨b0, b1, b2, bs⟩ := kt4 cU cy cz cB aQ
 have bt := gv (cN [2] rfl) rfl
 have bK := es_ dF ar
 obtain ⟨a4, a5⟩ := be2 ar bn bo
 have a2 := re_ ar bl
 have a3 := re_ ar bm
 refine fl_cond bt y (fun dk y => ?_) (fun dk y => ?_)
 ·refine rq_seq 71 ch (bz 1) [dv [] [] 6 (.bool false)] cj cd ?_ ?_
  ·exact sO (or_assign rfl) <| steps_nil
  intro dU eD eL dn eR en cO cD
  have b3 := gv (cO [0] rfl) rfl
  have cH := es_ bK cD
  refine fl_ret ?_
  refine dN _ _ _ rfl ?_
  obtain rfl := osome y
  exact aV _ _ _ _ (.inl rfl) dn (results1_ rfl (RVal.tmp_ b3)) ⟨dU, rfl, cH⟩
 refine fl_skip ?_
 refine dM _ _ ?_
 refine fl_seq (fun eB cY c0 => ?_)
 refine rq_seq 71 ch (bz 2) [dv [] [10] 37 (Zi b.2), dv [0] [] 38 (.bool (!decide (b.2 = 0)))] cj cd ?_ ?_
 ·exact sM bs <| sF (fun f => or_neq f.1 rfl rfl) <| steps_nil
 intro bO eE eM br bU cV cP au
 obtain ⟨aN, U, aO⟩ := kt3 cV b0 b1 b2
 have bu := gv (cP [1] rfl) rfl
 have aK := es_ bK au
 obtain ⟨ag, ah⟩ := be2 au a4 a5
 have K := re_ au a2
 have af := re_ au a3
 refine fl_cond bu y (fun dl y => ?_) (fun dl y => ?_)
 ·obtain ⟨ak, c1, y⟩ := obind y
  obtain ⟨ci, da, y⟩ := obind y
  refine rq_seq 71 bO (bz 7) [dv [] [] 39 (.bool ak), dv [0] [] 40 (.bool ak), dc [1] [7] ak 41 (sl o j.1 d), dc [1, 2] [] ak 42 (Zi (j.1.length : Int)), dc [1, 3] [] ak 43 (.bool (decide ((j.1.length : Int) = 0))), dv [1, 4] [] 44 (.bool ci), dv [5] [] 6 (.bool ci)] bU br ?_ ?_
  ·exact sO (or_call cf9 (args0) (law27_known_w _   ak c1) post_val) <| sV <| cT (fun _ s _ _ => or_move (s.1.trans U)) <| cT (fun f _ _ F => or_len tu22 (f.2.1.1 F) rfl) <| cT (fun f _ _ F => or_eql (f.2.1.1 F) rfl rfl) <| sF (fun f => or_and f.1 (fun hx => f.2.1.1 hx) rfl (osome da).symm) <| sA <| steps_nil
  intro dV eF eN dp eS eo cQ cE
  have b4 := gv (cQ [6] rfl) rfl
  have cI := es_ aK cE
  refine fl_ret ?_
  refine c0 _ _ _ rfl ?_
  obtain rfl := (osome y).symm
  exact aV _ _ _ _ (.inl rfl) dp (results1_ rfl (RVal.tmp_ b4)) ⟨dV, rfl, cI⟩
 refine fl_skip ?_
 refine cY _ _ ?_
 refine rngO_cases y (fun ae cZ y => ?_) (fun k c2 y => ?_)
 ·refine rq_seq 71 bO [0, 1, 3, 7, 7, 15, 63] [dv [] [7] 46 (sl o j.1 d), dv [0] [] 47 (.tuple #[.pointer none, Zi ae.2]), dv [1] [] 45 (.tuple #[.pointer none, Zi ae.2]), dv [2] [] 48 (.pointer none), dv [2] [] 49 (Zi ae.2), dv [3] [] 11 (.pointer none), dv [4] [] 12 (Zi ae.2)] bU br ?_ ?_
  ·exact sM U <| sFE (fun f v => or_call cf12 (args1 f.1) (pack_Open_n _ j.1 o d (RdO.zero (RwO.rd (re_ v K))) ae cZ) post_val) <| sV <| sF (fun f => ok1 f.1) <| sF (fun f => ok1 f.1) <| sA <| sA <| steps_nil
  intro dW eG eO dq d8 cW bM av
  obtain ⟨ea, b5, b6⟩ := kt3 cW aN U aO
  have bv := gv (bM [5] rfl) rfl
  have bw := gv (bM [6] rfl) rfl
  have cJ := es_ aK av
  obtain ⟨dh, a8⟩ := be2 av ag ah
  have a6 := re_ av K
  have a7 := re_ av af
  obtain ⟨I, c3, y⟩ := obind y
  obtain ⟨bS, c4, y⟩ := obind y
  obtain ⟨al, c5, y⟩ := obind y
  obtain ⟨aZ, db, y⟩ := obind y
  refine rq_seq 71 dW [0, 1, 3, 3, 11, 31, 63, 127, 255, 511, 1023, 2047, 4095, 8191, 16383, 32767, 65535, 65535, 65535, 524287, 1048575, 2097151] [dv [] [] 50 (.bool I), dv [0] [] 51 (.bool I), dc [1] [7] I 52 (sl o j.1 d), dc [1] [9] I 53 (.agg #[.string b.1.1, sl p b.1.2 i]), ⟨[1, 3], [], [], Fct.cond I (some 54) (Fct.row 124 [] 54 5 R5 bS)⟩, dc [1, 2, 4] [] I 55 (.bool al), dv [1, 5] [] 56 (.bool (I && al)), dv [6] [] 57 (.bool (I && al)), dc [7] [12] (I && al) 58 (Zi ae.2), dc [7, 8] [] (I && al) 59 (.bool (decide (ae.2 = 0))), dv [7, 9] [] 60 (.bool aZ), dv [10] [] 61 (.bool aZ), dc [11] [11] aZ 62 (.pointer none), dc [11, 12] [] aZ 63 (.bool false), dv [11, 13] [] 64 (.bool false), dv [14] [] 65 (.bool false), dc [15] [] false 66 (.pointer none), dc [15] [] false 67 (.pointer none), dc [15] [] false 68 (.agg #[Zi 0, Zi 0, Zi 0]), dc [15] [] false 69 (.bool false), dv [15, 19] [] 70 (.bool false), dv [20] [] 6 (.bool false)] d8 dq ?_ ?_
  ·refine sO (or_call cf9 (args0) (law27_known_w _   I c3) post_val) <| sV <| cT (fun _ s _ _ => or_move (s.1.trans b5)) <| cTL ta43 b6 a8 <| cT (fun f _ v F => or_call cf17 (args1 (f.2.1.1 F)) (ref27_Bytes_w _ b.1 p i (RdO.zero (RwO.rd (re_ v a7))) bS (gd_t c4 F)) (post_row (m' := (look0 [(1, 124)])) (.inl (Rep.fl_flat _)) rfl rfl (fun _ => rfl))) ?_
   refine sc (fun own a wx A B v => ?_) ?_
   ·obtain ⟨bG, bp, bq, -⟩ := A
    refine sg_t rfl rfl rfl bG (fun F => ?_)
    have bH := bp.1 F
    obtain ⟨⟨di, co⟩, bI, bW⟩ := bq.1 F
    exact or_call cf11 (args2 bH bI) (ref07_Same_w _ j.1 o d bS di co (RdO.zero (RwO.rd (re_ v a6))) (RdO.zero (RwO.rd bW)) al (gd_t c5 F)) post_val
   refine sF (fun f => or_and f.1 (fun hx => f.2.1.1 hx) rfl rfl) <| sV <| cT (fun _ s _ _ => or_move (s.1.trans bw)) <| cT (fun f _ _ F => or_eql (f.2.1.1 F) rfl rfl) <| sF (fun f => or_and f.1 (fun hx => f.2.1.1 hx) rfl (osome db).symm) <| sV <| cT (fun _ s _ _ => or_move (s.1.trans bv)) <| cT (fun f _ _ F => ok1 (f.2.1.1 F)) <| sF (fun f => or_and f.1 (fun hx => f.2.1.1 hx) rfl (Bool.and_false _)) <| sV ?_
   refine sc (fun own a wx A B v => ?_) ?_
   ·obtain ⟨ad, -⟩ := A
    refine sg_t rfl rfl rfl ad (fun F => ?_)
    exact absurd F (by simp)
   refine sc (fun own a wx A B v => ?_) ?_
   ·obtain ⟨ad, -⟩ := A
    refine sg_t rfl rfl rfl ad (fun F => ?_)
    exact absurd F (by simp)
   refine sc (fun own a wx A B v => ?_) ?_
   ·obtain ⟨ad, -⟩ := A
    refine sg_t rfl rfl rfl ad (fun F => ?_)
    exact absurd F (by simp)
   refine sc (fun own a wx A B v => ?_) ?_
   ·obtain ⟨ad, -⟩ := A
    refine sg_t rfl rfl rfl ad (fun F => ?_)
    exact absurd F (by simp)
   exact sF (fun f => or_and f.1 (fun hx => f.2.1.1 hx) rfl rfl) <| sA <| steps_nil
  intro dX eH eP dr eT ep cR cF
  have b7 := gv (cR [21] rfl) rfl
  have cK := es_ cJ cF
  refine fl_ret ?_
  obtain rfl := osome y
  exact aV _ _ _ _ (.inl rfl) dr (results1_ rfl (RVal.tmp_ b7)) ⟨dX, rfl, cK⟩
 refine rq_seq 71 bO [0, 1, 3, 7, 7, 15, 63] [dv [] [7] 46 (sl o j.1 d), ⟨[0], [], [], Fct.mems [114, 115, 116, 117, 118] 47 (fun (x : (Option Addr × Nat) × (Option Addr × Nat) × (Option Addr × Nat) × (Option Addr × Nat)) => .tuple #[.pointer (some ⟨x.1.2, 0, none⟩), Zi k.2]) (fun (x : (Option Addr × Nat) × (Option Addr × Nat) × (Option Addr × Nat) × (Option Addr × Nat)) own w => RwO own 114 [] w 5 R5 x.2.1.1 x.2.1.2 k.1.1 ∧ RwO own 115 [116] w 22 R22 x.2.2.1.1 x.2.2.1.2 k.1.2.1 ∧ RwO own 117 [] w 66 R66 x.2.2.2.1 x.2.2.2.2 k.1.2.2 ∧ BlkO own 118 w x.1.2 64 #[.slice x.2.1.1 k.1.1.length x.2.1.2, .slice x.2.2.1.1 k.1.2.1.length x.2.2.1.2, .slice x.2.2.2.1 k.1.2.2.length x.2.2.2.2]) (fun hk he h => ⟨RwO.evo (hits_sub hk (by decide)) he h.1, RwO.evo (hits_sub hk (by decide)) he h.2.1, RwO.evo (hits_sub hk (by decide)) he h.2.2.1, BlkO.evo (not_hit hk (by decide)) he h.2.2.2⟩)⟩, ⟨[1], [], [], Fct.rel [45, 47] (fun l => ∀ (c : Nat), l.getD 1 undef = .tuple #[pt c 0, Zi k.2] → l.getD 0 undef = .tuple #[pt c 0, Zi k.2])⟩, ⟨[2, 1], [], [], Fct.rel [48, 47] (fun l => ∀ (c : Nat), l.getD 1 undef = .tuple #[pt c 0, Zi k.2] → l.getD 0 undef = pt c 0)⟩, dv [2, 1] [] 49 (Zi k.2), ⟨[3, 1], [], [], Fct.rel [11, 47] (fun l => ∀ (c : Nat), l.getD 1 undef = .tuple #[pt c 0, Zi k.2] → l.getD 0 undef = pt c 0)⟩, dv [4] [] 12 (Zi k.2)] bU br ?_ ?_
 ·refine sM U <| sFE (fun f v => or_call cf12 (args1 f.1) (pack_Open_w _ j.1 o d (RdO.zero (RwO.rd (re_ v K))) k c2) (post_mems (m := (fun _ => 0)) (m' := (look0 [(1, 118), (2, 114), (3, 115), (4, 116), (5, 117)])) (fun _ _ => .inl rfl) (fun q w' a' x h1 h => ⟨x, h1, ⟨RwO.back_ h.1 (by decide) (.inl (Rep.fl_flat _)), RwO.back_ h.2.1 (by decide) (.inr (by decide)), RwO.back_ h.2.2.1 (by decide) (.inl (Rep.fl_flat _)), BlkO.back_ h.2.2.2 (by decide)⟩⟩))) ?_
  refine sc (fun own a wx A B v => ?_) ?_
  ·obtain ⟨⟨⟨⟨aL, c⟩, ⟨Y, N⟩, ⟨Z, O⟩, ⟨aa, P⟩⟩, (E : a.eval (.tmp 47) = .tuple #[pt c 0, Zi k.2]), ao, ap, aq, ab⟩, -⟩ := A
   exact px (or_mono (f := Fct.val 45 (.tuple #[pt c 0, Zi k.2])) (or_move E) (fun q a' w' v' hp h => fun _ u => by cases (E.symm.trans ((hp.2 47 (by decide)).symm.trans u)); exact h))
  refine sc (fun own a wx A B v => ?_) ?_
  ·obtain ⟨(bR : ∀ (c : Nat), a.eval (.tmp 47) = .tuple #[pt c 0, Zi k.2] → a.eval (.tmp 45) = .tuple #[pt c 0, Zi k.2]), ⟨⟨⟨aL, c⟩, ⟨Y, N⟩, ⟨Z, O⟩, ⟨aa, P⟩⟩, (E : a.eval (.tmp 47) = .tuple #[pt c 0, Zi k.2]), ao, ap, aq, ab⟩, -⟩ := A
   have bF := bR _ E
   exact px (or_mono (f := Fct.val 48 (pt c 0)) (ok1 bF) (fun q a' w' v' hp h => fun _ u => by cases (E.symm.trans ((hp.2 47 (by decide)).symm.trans u)); exact h))
  refine sc (fun own a wx A B v => ?_) ?_
  ·obtain ⟨(bR : ∀ (c : Nat), a.eval (.tmp 47) = .tuple #[pt c 0, Zi k.2] → a.eval (.tmp 45) = .tuple #[pt c 0, Zi k.2]), ⟨⟨⟨aL, c⟩, ⟨Y, N⟩, ⟨Z, O⟩, ⟨aa, P⟩⟩, E, ao, ap, aq, ab⟩, -⟩ := A
   have bF := bR _ E
   exact px (ok1 bF)
  refine sc (fun own a wx A B v => ?_) ?_
  ·obtain ⟨(d5 : ∀ (c : Nat), a.eval (.tmp 47) = .tuple #[pt c 0, Zi k.2] → a.eval (.tmp 48) = pt c 0), ⟨⟨⟨aL, c⟩, ⟨Y, N⟩, ⟨Z, O⟩, ⟨aa, P⟩⟩, (E : a.eval (.tmp 47) = .tuple #[pt c 0, Zi k.2]), ao, ap, aq, ab⟩, -⟩ := A
   have dz := d5 _ E
   exact px (or_mono (f := Fct.val 11 (pt c 0)) (or_assign dz) (fun q a' w' v' hp h => fun _ u => by cases (E.symm.trans ((hp.2 47 (by decide)).symm.trans u)); exact h))
  exact sA <| steps_nil
 intro aD be aY ds d9 cX bN aw
 obtain ⟨b8, b9, aP⟩ := kt3 cX aN U aO
 have bx := gv (bN [6] rfl) rfl
 obtain ⟨⟨⟨⟨aL, c⟩, ⟨Y, N⟩, ⟨Z, O⟩, ⟨aa, P⟩⟩, (E : be.eval (.tmp 47) = .tuple #[pt c 0, Zi k.2]), (aF : RwO aD 114 [] aY 5 R5 Y N k.1.1), (aG : RwO aD 115 [116] aY 22 R22 Z O k.1.2.1), (aH : RwO aD 117 [] aY 66 R66 aa P k.1.2.2), (ay : BlkO aD 118 aY c 64 #[sl Y k.1.1 N, sl Z k.1.2.1 O, sl aa k.1.2.2 P])⟩, (d2 : ∀ (c : Nat), be.eval (.tmp 47) = .tuple #[pt c 0, Zi k.2] → be.eval (.tmp 11) = pt c 0), -⟩ := bN [1, 5] rfl
 have aB := d2 _ E
 have cL := es_ aK aw
 obtain ⟨ba, aj⟩ := be2 aw ag ah
 have a9 := re_ aw K
 have ai := re_ aw af
 obtain ⟨J, c6, y⟩ := obind y
 obtain ⟨bT, c7, y⟩ := obind y
 obtain ⟨am, c8, y⟩ := obind y
 obtain ⟨G, dd, y⟩ := obind y
 obtain ⟨aW, c9, y⟩ := obind y
 refine rq_seq 71 aD [0, 1, 3, 3, 11, 31, 63, 127, 255, 511, 1023, 2047, 4095, 8191, 16383, 32767, 65535, 65535, 65535, 524287, 1048575, 2097151] [dv [] [] 50 (.bool J), dv [0] [] 51 (.bool J), dc [1] [7] J 52 (sl o j.1 d), dc [1] [9] J 53 (.agg #[.string b.1.1, sl p b.1.2 i]), ⟨[1, 3], [], [], Fct.cond J (some 54) (Fct.row 132 [] 54 5 R5 bT)⟩, dc [1, 2, 4] [] J 55 (.bool am), dv [1, 5] [] 56 (.bool (J && am)), dv [6] [] 57 (.bool (J && am)), dc [7] [12] (J && am) 58 (Zi k.2), dc [7, 8] [] (J && am) 59 (.bool (decide (k.2 = 0))), dv [7, 9] [] 60 (.bool G), dv [10] [] 61 (.bool G), dc [11] [11] G 62 (pt c 0), dc [11, 12] [] G 63 (.bool true), dv [11, 13] [] 64 (.bool G), dv [14] [] 65 (.bool G), dc [15] [11] G 66 (pt c 0), dc [15] [9] G 67 (.agg #[.string b.1.1, sl p b.1.2 i]), dc [15] [5] G 68 (.agg #[Zi t3.1, Zi t3.2.1, Zi t3.2.2]), dc [15, 16, 17, 18] [] G 69 (.bool aW), dv [15, 19] [] 70 (.bool (G && aW)), dv [20] [] 6 (.bool (G && aW))] d9 ds ?_ ?_
 ·refine sO (or_call cf9 (args0) (law27_known_w _   J c6) post_val) <| sV <| cT (fun _ s _ _ => or_move (s.1.trans b9)) <| cTL ta43 aP aj <| cT (fun f _ v F => or_call cf17 (args1 (f.2.1.1 F)) (ref27_Bytes_w _ b.1 p i (RdO.zero (RwO.rd (re_ v ai))) bT (gd_t c7 F)) (post_row (m' := (look0 [(1, 132)])) (.inl (Rep.fl_flat _)) rfl rfl (fun _ => rfl))) ?_
  refine sc (fun own a wx A B v => ?_) ?_
  ·obtain ⟨bG, bp, bq, -⟩ := A
   refine sg_t rfl rfl rfl bG (fun F => ?_)
   have bH := bp.1 F
   obtain ⟨⟨dj, cp⟩, bI, bX⟩ := bq.1 F
   exact or_call cf11 (args2 bH bI) (ref07_Same_w _ j.1 o d bT dj cp (RdO.zero (RwO.rd (re_ v a9))) (RdO.zero (RwO.rd bX)) am (gd_t c8 F)) post_val
  exact sF (fun f => or_and f.1 (fun hx => f.2.1.1 hx) rfl rfl) <| sV <| cT (fun _ s _ _ => or_move (s.1.trans bx)) <| cT (fun f _ _ F => or_eql (f.2.1.1 F) rfl rfl) <| sF (fun f => or_and f.1 (fun hx => f.2.1.1 hx) rfl (osome dd).symm) <| sV <| cT (fun _ s _ _ => or_move (s.1.trans aB)) <| cT (fun f _ _ F => ok1 (f.2.1.1 F)) <| sF (fun f => or_and f.1 (fun hx => f.2.1.1 hx) rfl (Bool.and_true _)) <| sV <| cT (fun _ s _ _ => or_move (s.1.trans aB)) <| cTL ta43 aP aj <| cTL ta28 b8 ba <| cT (fun f _ v F => or_call cf18 (args3 (f.2.1.1 F) (f.2.2.1.1 F) (f.2.2.2.1.1 F)) (law27_alike_w _ k.1 c 64 Y N Z O aa P b.1 p i t3 (BlkO.zero_ (be_ v ay)) (RdO.zero (RwO.rd (re_ v aF))) (RdO.zero (RwO.rd (re_ v aG))) (RdO.zero (RwO.rd (re_ v aH))) (RdO.zero (RwO.rd (re_ v ai))) aW (gd_t c9 F)) post_val) <| sF (fun f => or_and f.1 (fun hx => f.2.1.1 hx) rfl rfl) <| sA <| steps_nil
 intro dY eI eQ dt eU eq cS cG
 have ca := gv (cS [21] rfl) rfl
 have cM := es_ cL cG
 refine fl_ret ?_
 obtain rfl := osome y
 exact aV _ _ _ _ (.inl rfl) dt (results1_ rfl (RVal.tmp_ ca)) ⟨dY, rfl, cM⟩
end Go.Proofs.Ytnmkonlfnpcoiaa
