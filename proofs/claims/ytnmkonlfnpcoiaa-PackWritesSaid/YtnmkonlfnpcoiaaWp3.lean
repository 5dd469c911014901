import Derived.Test.YtnmkonlfnpcoiaaWp2
import Derived.Test.YtnmkonlfnpcoiaaSp3
namespace Go.Proofs.Ytnmkonlfnpcoiaa
open Go.RowKit
set_option linter.unusedVariables false
set_option maxRecDepth 10000
set_option maxHeartbeats 2000000 in
theorem sort_pdqsort_func_w : ∀ (fu : Nat) (w : World) (own : Own) (Tx : Type) (lf : List Tx → Int → Int → Option Bool) (ca : Value) (sv : Value) (th : Value) (l0 : List Tx) (Jx : Sj (List Tx)) (x1 : Int) (b2 : Int) (ag : Int) (l : ∀ b, own b ≤ 1) (hL : LessS Try.prog 48 ca lf Jx) (hS : SwapS Try.prog 71 sv th Jx) (hJx : SoO Jx own 1 w l0) (r : List Tx) (t : sort_pdqsort_func_r Tx lf fu l0 x1 b2 ag = some r),
  Calls Try.prog 60 #[.agg #[.func (.func 48) #[] #[ca], .func (.func 71) #[] #[sv, th]], Zi x1, Zi b2, Zi ag] w fun e w' => ∃ (K : Own), e = .returned (.tuple #[]) ∧ Evo [1] own K w w' ∧ SoO Jx K 1 w' r := by
 intro fu
 induction fu with
 | zero => intros; rename_i t; exact nomatch t
 | succ fu ih =>
 intro w own Tx lf ca sv th l0 Jx x1 b2 ag l hL hS hJx r t
 refine fl_enter (n := 130) rfl rfl rfl (Nat.le_of_ble_eq_true rfl) ?_
 replace t : (sort_pdqsort_func_l1 Tx lf (sort_pdqsort_func_r Tx lf fu) (x1, b2, ag, true, true, l0)) = some r := t
 intro a0 Q d0 z0 cB g4
 have mx := cB 0 _ rfl
 have my := cB 1 _ rfl
 have mz := cB 2 _ rfl
 have mA := cB 3 _ rfl
 clear cB
 have mw : Evo [1] own own w w := Evo.refl _ _ _
 refine rq_seq 130 own (bz 1) [⟨[], [0], [], Fct.blk 1322 4 (fun g => pt g 0) 122 #[.func (.func 48) #[] #[ca], .func (.func 71) #[] #[sv, th]]⟩] z0 d0 ?_ ?_
 ·exact sS (fun s => nw1 (s.1.trans mx)) <| steps_nil
 intro g5 jD kN jW kZ iG ia cS
 obtain ⟨eG, eH, eI⟩ := kt3 iG my mz mA
 obtain ⟨⟨x, (eJ : jD.eval (.tmp 4) = pt x 0), (a3 : BlkO g5 1322 kN x 122 #[.func (.func 48) #[] #[ca], .func (.func 71) #[] #[sv, th]])⟩, -⟩ := ia [0] rfl
 have hI := Evo.step mw l cS rfl
 have df := SoO.evo (by decide) cS hJx
 refine rq_seq 130 g5 (bz 1) [dv [] [] 8 (.bool true)] kZ jW ?_ ?_
 ·exact sO (or_assign rfl) <| steps_nil
 intro ky l8 mB jX k0 iH ib bs
 obtain ⟨eK, eL, eM, eN⟩ := kt4 iH eG eH eI eJ
 have eO := gv (ib [0] rfl) rfl
 have hJ := Evo.step hI l bs rfl
 have dg := SoO.evo (by decide) bs df
 have a4 := be_ bs a3
 refine rq_seq 130 ky (bz 1) [dv [] [] 9 (.bool true)] k0 jX ?_ ?_
 ·exact sO (or_assign rfl) <| steps_nil
 intro kz l9 mC jY k1 iI ic bt
 obtain ⟨eP, eQ, eR, eS, eT⟩ := kt5 iI eK eL eM eN eO
 have eU := gv (ic [0] rfl) rfl
 have hK := Evo.step hJ l bt rfl
 have dh := SoO.evo (by decide) bt dg
 have a5 := be_ bt a4
 refine fl_block (fun l3 lW lZ bT => ?_)
 refine fl_loop (body := (fun s => sort_pdqsort_func_b1 Tx lf (sort_pdqsort_func_r Tx lf fu) s.1 s.2.1 s.2.2.1 s.2.2.2.1 s.2.2.2.2.1 s.2.2.2.2.2)) (z := r) (show loopO _ _ = _ from t) (fun (s : Int × Int × Int × Bool × Bool × (List Tx)) a wx => match s with | (c, i, u, d, k, J) => ∃ (ox : Own), a.defers = [] ∧ a.tmps.size = 130 ∧ a.eval (.tmp 1) = Zi c ∧ a.eval (.tmp 2) = Zi i ∧ a.eval (.tmp 3) = Zi u ∧ a.eval (.tmp 4) = pt x 0 ∧ a.eval (.tmp 8) = .bool d ∧ a.eval (.tmp 9) = .bool k ∧ Evo [1] own ox w wx ∧ BlkO ox 1322 wx x 122 #[.func (.func 48) #[] #[ca], .func (.func 71) #[] #[sv, th]] ∧ SoO Jx ox 1730 wx J) ?_ ?_
 ·exact ⟨(rl [(1, 1730)] kz), jY, k1, eP, eQ, eR, eS, eT, eU, (Evo.rl_ hK l rfl), (BlkO.rl_ a5), (SoO.rl_ dh)⟩
 ·rintro ⟨c, i, u, d, k, J⟩ Z ma mD ⟨kA, jZ, k2, bW, bX, eV, eW, eX, eY, hA, a6, di⟩ t l4 i8 bU cR
  have t : sort_pdqsort_func_b1 Tx lf (sort_pdqsort_func_r Tx lf fu) c i u d k J = some Z := t
  refine fl_block (fun ex i9 ju bV => ?_)
  have cE : ∀ (B : Act) (ab : World) (aw : Own) (cQ : Int) (cF : Int) (O : Int) (D : Bool) (E : Bool) (cI : List Tx), B.defers = [] → B.tmps.size = 130 → B.eval (.tmp 1) = Zi cQ → B.eval (.tmp 2) = Zi cF → B.eval (.tmp 3) = Zi O → B.eval (.tmp 4) = pt x 0 → B.eval (.tmp 8) = .bool D → B.eval (.tmp 9) = .bool E → Evo [1] own aw w ab → BlkO aw 1322 ab x 122 #[.func (.func 48) #[] #[ca], .func (.func 71) #[] #[sv, th]] → SoO Jx aw 2054 ab cI → sort_pdqsort_func_k2 Tx cQ cF O D E cI = some Z → (ex .normal B ab ∧ ex (.exit 1) B ab) := by
   intro B ab aw cQ cF O D E cI j0 k3 eZ e0 e1 e2 e3 e4 hB a7 dj t
   refine and_both (i9 _ _) (ju _ _) ?_
   exact i8 _ _ _ t ⟨(rl [(2054, 1730)] aw), j0, k3, eZ, e0, e1, e2, e3, e4, (Evo.rl_ hB l rfl), (BlkO.rl_ a7), (SoO.rl_ dj)⟩
  refine rq_seq 130 kA [0, 0, 3, 7] [dv [] [2] 19 (Zi i), dv [] [1] 20 (Zi c), dv [0, 1] [] 21 (Zi (sb i c)), dv [2] [] 10 (Zi (sb i c))] k2 jZ ?_ ?_
  ·exact sM bX <| sM bW <| sF (fun f => or_sub f.1 f.2.1 rfl) <| sA <| steps_nil
  intro kB mb mE j1 k4 iJ id bu
  obtain ⟨e5, e6, e7, e8, e9, fa⟩ := kt6 iJ bW bX eV eW eX eY
  have aN := gv (id [3] rfl) rfl
  have hM := Evo.step hA l bu rfl
  have a8 := be_ bu a6
  have dk := SoO.evo (by decide) bu di
  refine fl_seq (fun l5 ja jg => ?_)
  refine rq_seq 130 kB (bz 2) [dv [] [10] 22 (Zi (sb i c)), dv [0] [] 23 (.bool (decide ((sb i c) ≤ 12)))] k4 j1 ?_ ?_
  ·exact sM aN <| sF (fun f => or_leq f.1 rfl rfl) <| steps_nil
  intro g6 mc mF ey hq iK ie bv
  obtain ⟨bY, bZ, b0, b1, fb, fc, dJ⟩ := kt7 iK e5 e6 e7 e8 e9 fa aN
  have dK := gv (ie [1] rfl) rfl
  have c2 := Evo.step hM l bv rfl
  have P := be_ bv a8
  have aE := SoO.evo (by decide) bv dk
  refine fl_cond dK t (fun jO t => ?_) (fun jO t => ?_)
  ·obtain ⟨cK, jk, t⟩ := obind t
   refine rr_seq 130 [Fct.soAt Jx 1730 J] g6 [1730] [0, 0, 0, 7] [dv [] [4] 24 (.agg #[.func (.func 48) #[] #[ca], .func (.func 71) #[] #[sv, th]]), dv [] [1] 25 (Zi c), dv [] [2] 26 (Zi i), ⟨[0, 1, 2, 4], [], [1730], Fct.mems [2062] 27 (fun (_ : Unit) => .tuple #[]) (fun (_ : Unit) own w => SoO Jx own 2062 w cK) (fun hk he h => SoO.evo (not_hit hk (by decide)) he h)⟩] hq ey (fm1 aE) ?_ ?_
   ·refine sL ta122 b1 P <| sM bY <| sM bZ ?_
    refine sc (fun own a wx hf af hE => ?_) ?_
    ·obtain ⟨ls, lt, lu, b_Jx, -⟩ := hf
     exact px (or_call cf74 (args3 ls lt lu) (sort_insertionSort_func_w _ (forth own (look0 [(1730, 1)])) Tx lf ca sv th J Jx c i (look0_le rfl) hL hS (SoO.forth_ (m := (look0 [(1730, 1)])) b_Jx) cK jk) (post_mems0 (m := (look0 [(1730, 1)])) (m' := (look0 [(1, 2062)])) (hm_of rfl) (fun K w' a' h1 h => ⟨(), h1, SoO.back_ h (by decide)⟩)))
    exact steps_nil
   intro g7 jE kO j2 mX lU ig hC
   obtain ⟨⟨_, (mZ : jE.eval (.tmp 27) = .tuple #[]), (dl : SoO Jx g7 2062 kO cK)⟩, -⟩ := ig [3] rfl
   have hN := Evo.step c2 l hC rfl
   refine fl_ret ?_
   refine jg _ _ _ rfl ?_
   refine bV _ _ _ rfl ?_
   replace t := cR _ t
   refine bU _ _ _ rfl ?_
   refine bT _ _ _ rfl ?_
   obtain rfl := (osome t).symm
   exact g4 _ _ _ _ (.inl rfl) j2 (results0_ rfl ) ⟨(rl [(2062, 1)] g7), rfl, (Evo.rl_ hN l rfl), (SoO.rl_ dl)⟩
  refine fl_skip ?_
  refine ja _ _ ?_
  refine fl_seq (fun l6 jb jh => ?_)
  refine rq_seq 130 g6 (bz 2) [dv [] [3] 28 (Zi u), dv [0] [] 29 (.bool (decide (u = 0)))] hq ey ?_ ?_
  ·exact sM b0 <| sF (fun f => or_eql f.1 rfl rfl) <| steps_nil
  intro g8 md mG ez hr iL ii bw
  obtain ⟨b3, b4, fd, b5, b6, fe, dL⟩ := kt7 iL bY bZ b0 b1 fb fc dJ
  have dM := gv (ii [1] rfl) rfl
  have c3 := Evo.step c2 l bw rfl
  have R := be_ bw P
  have aF := SoO.evo (by decide) bw aE
  refine fl_cond dM t (fun jP t => ?_) (fun jP t => ?_)
  ·obtain ⟨cL, jl, t⟩ := obind t
   refine rr_seq 130 [Fct.soAt Jx 1730 J] g8 [1730] [0, 0, 0, 7] [dv [] [4] 30 (.agg #[.func (.func 48) #[] #[ca], .func (.func 71) #[] #[sv, th]]), dv [] [1] 31 (Zi c), dv [] [2] 32 (Zi i), ⟨[0, 1, 2, 4], [], [1730], Fct.mems [2068] 33 (fun (_ : Unit) => .tuple #[]) (fun (_ : Unit) own w => SoO Jx own 2068 w cL) (fun hk he h => SoO.evo (not_hit hk (by decide)) he h)⟩] hr ez (fm1 aF) ?_ ?_
   ·refine sL ta122 b5 R <| sM b3 <| sM b4 ?_
    refine sc (fun own a wx hf af hE => ?_) ?_
    ·obtain ⟨lv, lw, lx, b_Jx, -⟩ := hf
     exact px (or_call cf75 (args3 lv lw lx) (sort_heapSort_func_w _ (forth own (look0 [(1730, 1)])) Tx lf ca sv th J Jx c i (look0_le rfl) hL hS (SoO.forth_ (m := (look0 [(1730, 1)])) b_Jx) cL jl) (post_mems0 (m := (look0 [(1730, 1)])) (m' := (look0 [(1, 2068)])) (hm_of rfl) (fun K w' a' h1 h => ⟨(), h1, SoO.back_ h (by decide)⟩)))
    exact steps_nil
   intro g9 jF kP j3 mY lV ij hD
   obtain ⟨⟨_, (m0 : jF.eval (.tmp 33) = .tuple #[]), (dm : SoO Jx g9 2068 kP cL)⟩, -⟩ := ij [3] rfl
   have hO := Evo.step c3 l hD rfl
   refine fl_ret ?_
   refine jh _ _ _ rfl ?_
   refine bV _ _ _ rfl ?_
   replace t := cR _ t
   refine bU _ _ _ rfl ?_
   refine bT _ _ _ rfl ?_
   obtain rfl := (osome t).symm
   exact g4 _ _ _ _ (.inl rfl) j3 (results0_ rfl ) ⟨(rl [(2068, 1)] g9), rfl, (Evo.rl_ hO l rfl), (SoO.rl_ dm)⟩
  refine fl_skip ?_
  refine jb _ _ ?_
  refine fl_seq (fun jA jc lX => ?_)
  have eu : ∀ (C : Act) (aB : World) (ax : Own) (o : Int) (au : List Tx), C.defers = [] → C.tmps.size = 130 → C.eval (.tmp 1) = Zi c → C.eval (.tmp 2) = Zi i → C.eval (.tmp 3) = Zi o → C.eval (.tmp 4) = pt x 0 → C.eval (.tmp 8) = .bool d → C.eval (.tmp 9) = .bool k → C.eval (.tmp 10) = Zi (sb i c) → Evo [1] own ax w aB → BlkO ax 1322 aB x 122 #[.func (.func 48) #[] #[ca], .func (.func 71) #[] #[sv, th]] → SoO Jx ax 2079 aB au → sort_pdqsort_func_k3 Tx lf (sort_pdqsort_func_r Tx lf fu) c i d k o au = some Z → jA .normal C aB := by
   intro C aB ax o au j4 k5 b7 b8 ff b9 fg fh dN hF S dn t
   refine jc _ _ ?_
   obtain ⟨q, jm, t⟩ := obind t
   refine rr_seq 130 [Fct.soAt Jx 2079 au] ax [2079] [0, 0, 0, 7, 15, 31, 31, 63, 255] [dv [] [4] 43 (.agg #[.func (.func 48) #[] #[ca], .func (.func 71) #[] #[sv, th]]), dv [] [1] 44 (Zi c), dv [] [2] 45 (Zi i), ⟨[0, 1, 2, 9], [], [2079], Fct.mems [2083] 46 (fun (_ : Unit) => .tuple #[Zi q.1, Zi q.2.1]) (fun (_ : Unit) own w => SoO Jx own 2083 w q.2.2) (fun hk he h => SoO.evo (not_hit hk (by decide)) he h)⟩, dv [3] [] 42 (.tuple #[Zi q.1, Zi q.2.1]), dv [4] [] 47 (Zi q.1), dv [4] [] 48 (Zi q.2.1), dv [5] [] 11 (Zi q.1), dv [6] [] 12 (Zi q.2.1)] k5 j4 (fm1 dn) ?_ ?_
   ·refine sL ta122 b9 S <| sM b7 <| sM b8 ?_
    refine sc (fun own a wx hf af hE => ?_) ?_
    ·obtain ⟨lB, lC, lD, b_Jx, -⟩ := hf
     exact px (or_call cf77 (args3 lB lC lD) (sort_choosePivot_func_w _ (forth own (look0 [(2079, 1)])) Tx lf ca sv th au Jx c i (look0_le rfl) hL hS (SoO.forth_ (m := (look0 [(2079, 1)])) b_Jx) q jm) (post_mems0 (m := (look0 [(2079, 1)])) (m' := (look0 [(1, 2083)])) (hm_of rfl) (fun K w' a' h1 h => ⟨(), h1, SoO.back_ h (by decide)⟩)))
    refine sc (fun own a wx hf af hE => ?_) ?_
    ·obtain ⟨⟨_, jx, b_Jx⟩, -⟩ := hf
     exact px (or_move jx)
    exact sF (fun f => ok1 f.1) <| sF (fun f => ok1 f.1) <| sA <| sA <| steps_nil
   intro ha jG kQ j5 k6 iM bQ cU
   obtain ⟨fi, fj, fk, fl, fm, fn, dO⟩ := kt7 iM b7 b8 ff b9 fg fh dN
   have dP := gv (bQ [7] rfl) rfl
   have aO := gv (bQ [8] rfl) rfl
   obtain ⟨⟨_, (jx : jG.eval (.tmp 46) = .tuple #[Zi q.1, Zi q.2.1]), (dp : SoO Jx ha 2083 kQ q.2.2)⟩, -⟩ := bQ [3] rfl
   have hP := Evo.step hF l cU rfl
   have a9 := be_ cU S
   refine fl_seq (fun jB jd lY => ?_)
   have ev : ∀ (v : Act) (aC : World) (ay : Own) (p : Int) (F : Int) (av : List Tx), v.defers = [] → v.tmps.size = 130 → v.eval (.tmp 1) = Zi c → v.eval (.tmp 2) = Zi i → v.eval (.tmp 3) = Zi o → v.eval (.tmp 4) = pt x 0 → v.eval (.tmp 8) = .bool d → v.eval (.tmp 9) = .bool k → v.eval (.tmp 10) = Zi (sb i c) → v.eval (.tmp 11) = Zi p → v.eval (.tmp 12) = Zi F → Evo [1] own ay w aC → BlkO ay 1322 aC x 122 #[.func (.func 48) #[] #[ca], .func (.func 71) #[] #[sv, th]] → SoO Jx ay 2096 aC av → sort_pdqsort_func_k4 Tx lf (sort_pdqsort_func_r Tx lf fu) c i d k o p F av = some Z → jB .normal v aC := by
    intro v aC ay p F av j6 k7 fo fp fq fr cb cc dQ dR dS hG ba dq t
    refine jd _ _ ?_
    refine fl_seq (fun jC je ji => ?_)
    have ew : ∀ (y : Act) (aD : World) (az : Own) (N : List Tx), y.defers = [] → y.tmps.size = 130 → y.eval (.tmp 1) = Zi c → y.eval (.tmp 2) = Zi i → y.eval (.tmp 3) = Zi o → y.eval (.tmp 4) = pt x 0 → y.eval (.tmp 8) = .bool d → y.eval (.tmp 9) = .bool k → y.eval (.tmp 10) = Zi (sb i c) → y.eval (.tmp 11) = Zi p → Evo [1] own az w aD → BlkO az 1322 aD x 122 #[.func (.func 48) #[] #[ca], .func (.func 71) #[] #[sv, th]] → SoO Jx az 2108 aD N → sort_pdqsort_func_k5 Tx lf (sort_pdqsort_func_r Tx lf fu) c i d k o p N = some Z → jC .normal y aD := by
     intro y aD az N j7 k8 ah fs ft cd fv fw dT aP hH T aG t
     refine je _ _ ?_
     refine fl_seq (fun l7 jf jj => ?_)
     obtain ⟨cG, h9, t⟩ := obind t
     refine rq_seq 130 az [0, 1, 3, 7, 15, 7, 39, 7, 255, 511, 1023] [dv [] [1] 73 (Zi c), dv [0] [] 74 (.bool (decide (0 < c))), dv [1] [] 75 (.bool (decide (0 < c))), dc [2] [4] (decide (0 < c)) 76 (pt x 0), dc [2, 3] [] (decide (0 < c)) 77 (.func (.func 48) #[] #[ca]), dc [2] [1] (decide (0 < c)) 78 (Zi c), dc [2, 5] [] (decide (0 < c)) 79 (Zi (sb c 1)), dc [2] [11] (decide (0 < c)) 80 (Zi p), dc [2, 4, 6, 7] [] (decide (0 < c)) 81 (.bool cG), dc [2, 8] [] (decide (0 < c)) 82 (.bool (!cG)), dv [2, 9] [] 83 (.bool ((decide (0 < c)) && (!cG)))] k8 j7 ?_ ?_
     ·exact sM ah <| sF (fun f => or_gtr f.1 rfl rfl) <| sV <| cT (fun _ s _ _ => or_field fo122_0 (s.1.trans cd) (by rfl)) <| cT (fun f _ hE hg => ld1 to100 (f.2.1.1 hg) (be_ hE T)) <| cT (fun _ s _ _ => or_move (s.1.trans ah)) <| cT (fun f _ _ hg => or_sub (f.2.1.1 hg) rfl rfl) <| cT (fun _ s _ _ => or_move (s.1.trans aP)) <| cT (fun f _ hE hg => or_callf cf48 (f.2.1.1 hg) (args2 (f.2.2.1.1 hg) (f.2.2.2.1.1 hg)) rfl (hL _ _ _ _ _ _ _ (SoO.evo (by decide) hE aG) (gd_t h9 hg)) post_val) <| cT (fun f _ _ hg => or_not (f.2.1.1 hg) rfl) <| sF (fun f => or_and f.1 (fun hx => f.2.1.1 hx) rfl rfl) <| steps_nil
     intro hb me mH eA ht iN ik bx
     obtain ⟨ai, X, ce, Y, fx, fy, dU, aQ⟩ := kt8 iN ah fs ft cd fv fw dT aP
     have dV := gv (ik [10] rfl) rfl
     have c4 := Evo.step hH l bx rfl
     have A := be_ bx T
     have aH := SoO.evo (by decide) bx aG
     refine fl_cond dV t (fun jQ t => ?_) (fun jQ t => ?_)
     ·obtain ⟨L, jn, t⟩ := obind t
      refine rr_seq 130 [Fct.soAt Jx 2108 N] hb [2108] [0, 0, 0, 0, 15, 31] [dv [] [4] 84 (.agg #[.func (.func 48) #[] #[ca], .func (.func 71) #[] #[sv, th]]), dv [] [1] 85 (Zi c), dv [] [2] 86 (Zi i), dv [] [11] 87 (Zi p), ⟨[0, 1, 2, 3, 6], [], [2108], Fct.mems [2116] 88 (fun (_ : Unit) => Zi L.1) (fun (_ : Unit) own w => SoO Jx own 2116 w L.2) (fun hk he h => SoO.evo (not_hit hk (by decide)) he h)⟩, dv [4] [] 13 (Zi L.1)] ht eA (fm1 aH) ?_ ?_
      ·refine sL ta122 Y A <| sM ai <| sM X <| sM aQ ?_
       refine sc (fun own a wx hf af hE => ?_) ?_
       ·obtain ⟨lK, lL, lM, lN, b_Jx, -⟩ := hf
        exact px (or_call cf80 (args4 lK lL lM lN) (sort_partitionEqual_func_w _ (forth own (look0 [(2108, 1)])) Tx lf ca sv th N Jx c i p (look0_le rfl) hL hS (SoO.forth_ (m := (look0 [(2108, 1)])) b_Jx) L jn) (post_mems0 (m := (look0 [(2108, 1)])) (m' := (look0 [(1, 2116)])) (hm_of rfl) (fun K w' a' h1 h => ⟨(), h1, SoO.back_ h (by decide)⟩)))
       refine sc (fun own a wx hf af hE => ?_) ?_
       ·obtain ⟨⟨_, jy, b_Jx⟩, -⟩ := hf
        exact px (or_assign jy)
       exact steps_nil
      intro hc jH kR j8 k9 iO da cV
      obtain ⟨fz, fA, fB, fC, fD⟩ := kt5 iO X ce Y fx fy
      have dW := gv (da [5] rfl) rfl
      obtain ⟨⟨_, (jy : jH.eval (.tmp 88) = Zi L.1), (dr : SoO Jx hc 2116 kR L.2)⟩, -⟩ := da [4] rfl
      have hQ := Evo.step c4 l cV rfl
      have bb := be_ cV A
      refine rq_seq 130 hc (bz 2) [dv [] [13] 89 (Zi L.1), dv [0] [] 1 (Zi L.1)] k9 j8 ?_ ?_
      ·exact sM dW <| sA <| steps_nil
      intro kC mf mI j9 la iP il bA
      obtain ⟨fF, fG, fH, fI, fJ⟩ := kt5 iP fz fA fB fC fD
      have fE := gv (il [1] rfl) rfl
      have hR := Evo.step hQ l bA rfl
      have bc := be_ bA bb
      have ds := SoO.evo (by decide) bA dr
      refine fl_exit ?_
      refine jj _ _ _ rfl ?_
      exact (cE _ _ (rl [(2116, 2054)] kC) _ _ _ _ _ _ j9 la fE fF fG fH fI fJ (Evo.rl_ hR l rfl) (BlkO.rl_ bc) (SoO.rl_ ds) t).2
     refine fl_skip ?_
     refine jf _ _ ?_
     obtain ⟨j, jo, t⟩ := obind t
     refine rr_seq 130 [Fct.soAt Jx 2108 N] hb [2108] [0, 0, 0, 0, 15, 31, 63, 63, 127, 511] [dv [] [4] 91 (.agg #[.func (.func 48) #[] #[ca], .func (.func 71) #[] #[sv, th]]), dv [] [1] 92 (Zi c), dv [] [2] 93 (Zi i), dv [] [11] 94 (Zi p), ⟨[0, 1, 2, 3, 10], [], [2108], Fct.mems [2120] 95 (fun (_ : Unit) => .tuple #[Zi j.1, .bool j.2.1]) (fun (_ : Unit) own w => SoO Jx own 2120 w j.2.2) (fun hk he h => SoO.evo (not_hit hk (by decide)) he h)⟩, dv [4] [] 90 (.tuple #[Zi j.1, .bool j.2.1]), dv [5] [] 96 (Zi j.1), dv [5] [] 97 (.bool j.2.1), dv [6] [] 14 (Zi j.1), dv [7] [] 15 (.bool j.2.1)] ht eA (fm1 aH) ?_ ?_
     ·refine sL ta122 Y A <| sM ai <| sM X <| sM aQ ?_
      refine sc (fun own a wx hf af hE => ?_) ?_
      ·obtain ⟨lO, lP, lQ, lR, b_Jx, -⟩ := hf
       exact px (or_call cf81 (args4 lO lP lQ lR) (sort_partition_func_w _ (forth own (look0 [(2108, 1)])) Tx lf ca sv th N Jx c i p (look0_le rfl) hL hS (SoO.forth_ (m := (look0 [(2108, 1)])) b_Jx) j jo) (post_mems0 (m := (look0 [(2108, 1)])) (m' := (look0 [(1, 2120)])) (hm_of rfl) (fun K w' a' h1 h => ⟨(), h1, SoO.back_ h (by decide)⟩)))
      refine sc (fun own a wx hf af hE => ?_) ?_
      ·obtain ⟨⟨_, jz, b_Jx⟩, -⟩ := hf
       exact px (or_move jz)
      exact sF (fun f => ok1 f.1) <| sF (fun f => ok1 f.1) <| sA <| sA <| steps_nil
     intro hd jI kS ka lb iQ bR cW
     obtain ⟨fK, fL, fM, fN, dX⟩ := kt5 iQ ai X ce Y dU
     have dY := gv (bR [8] rfl) rfl
     have dZ := gv (bR [9] rfl) rfl
     obtain ⟨⟨_, (jz : jI.eval (.tmp 95) = .tuple #[Zi j.1, .bool j.2.1]), (dt : SoO Jx hd 2120 kS j.2.2)⟩, -⟩ := bR [4] rfl
     have hT := Evo.step c4 l cW rfl
     have bd := be_ cW A
     refine rq_seq 130 hd (bz 2) [dv [] [15] 98 (.bool j.2.1), dv [0] [] 9 (.bool j.2.1)] lb ka ?_ ?_
     ·exact sM dZ <| sA <| steps_nil
     intro kD mg mJ kb lc iR im bB
     obtain ⟨cf, cg, fO, fP, d1, aa⟩ := kt6 iR fK fL fM fN dX dY
     have fQ := gv (im [1] rfl) rfl
     have hU := Evo.step hT l bB rfl
     have be := be_ bB bd
     have du := SoO.evo (by decide) bB dt
     refine rq_seq 130 kD [0, 0, 3, 0, 0, 24, 7, 127] [dv [] [14] 99 (Zi j.1), dv [] [1] 100 (Zi c), dv [0, 1] [] 101 (Zi (sb j.1 c)), dv [] [2] 102 (Zi i), dv [] [14] 103 (Zi j.1), dv [3, 4] [] 104 (Zi (sb i j.1)), dv [2] [] 16 (Zi (sb j.1 c)), dv [5] [] 17 (Zi (sb i j.1))] lc kb ?_ ?_
     ·exact sM aa <| sM cf <| sF (fun f => or_sub f.1 f.2.1 rfl) <| sM cg <| sM aa <| sF (fun f => or_sub f.1 f.2.1 rfl) <| sA <| sA <| steps_nil
     intro kE mh mK kc ld iS db bC
     obtain ⟨fR, fS, fT, fU, fV, d2, d3⟩ := kt7 iS cf cg fO fP fQ d1 aa
     have d4 := gv (db [6] rfl) rfl
     have d5 := gv (db [7] rfl) rfl
     have hV := Evo.step hU l bC rfl
     have bf := be_ bC be
     have dw := SoO.evo (by decide) bC du
     obtain ⟨M, jv, t⟩ := obind t
     refine rq_seq 130 kE (bz 3) [dv [] [10] 105 (Zi (sb i c)), dv [0] [] 106 (Zi M), dv [1] [] 18 (Zi M)] ld kc ?_ ?_
     ·exact sM d2 <| sF (fun f => or_quo f.1 rfl jv) <| sA <| steps_nil
     intro kF mi mL kd le iT io bD
     obtain ⟨fW, fX, fY, fZ, f0, d6, aR, aS⟩ := kt8 iT fR fS fT fU fV d3 d4 d5
     have d7 := gv (io [2] rfl) rfl
     have hW := Evo.step hV l bD rfl
     have bg := be_ bD bf
     have dx := SoO.evo (by decide) bD dw
     refine rq_seq 130 kF [0, 0, 3] [dv [] [16] 107 (Zi (sb j.1 c)), dv [] [17] 108 (Zi (sb i j.1)), dv [0, 1] [] 109 (.bool (decide ((sb j.1 c) < (sb i j.1))))] le kd ?_ ?_
     ·exact sM aR <| sM aS <| sF (fun f => or_lss f.1 f.2.1 rfl) <| steps_nil
     intro hh mj mM eB hu dd ip bE
     obtain ⟨ch, ci, cj, ck, cl, aT, d8, d9⟩ := kt8 dd fW fX fY fZ f0 d6 aR aS
     have aU := kt dd d7
     have cH := gv (ip [2] rfl) rfl
     have c5 := Evo.step hW l bE rfl
     have U := be_ bE bg
     have aI := SoO.evo (by decide) bE dx
     refine fl_cond cH t (fun jR t => ?_) (fun jR t => ?_)
     ·refine rq_seq 130 hh [0, 0, 3, 7] [dv [] [16] 110 (Zi (sb j.1 c)), dv [] [18] 111 (Zi M), dv [0, 1] [] 112 (.bool (decide (M ≤ (sb j.1 c)))), dv [2] [] 8 (.bool (decide (M ≤ (sb j.1 c))))] hu eB ?_ ?_
      ·exact sM d8 <| sM aU <| sF (fun f => or_geq f.1 f.2.1 rfl) <| sA <| steps_nil
      intro kG mk mN ke lg iU iq bF
      obtain ⟨f1, f2, cm, cn, f4, aV⟩ := kt6 iU ch ci cj ck cl aT
      have f3 := gv (iq [3] rfl) rfl
      have hX := Evo.step c5 l bF rfl
      have V := be_ bF U
      have dy := SoO.evo (by decide) bF aI
      obtain ⟨cM, jp, t⟩ := obind t
      refine rr_seq 130 [Fct.soAt Jx 2120 j.2.2] kG [2120] [0, 0, 0, 0, 15] [dv [] [4] 113 (.agg #[.func (.func 48) #[] #[ca], .func (.func 71) #[] #[sv, th]]), dv [] [1] 114 (Zi c), dv [] [14] 115 (Zi j.1), dv [] [3] 116 (Zi o), ⟨[0, 1, 2, 3, 5], [], [2120], Fct.mems [2130] 117 (fun (_ : Unit) => .tuple #[]) (fun (_ : Unit) own w => SoO Jx own 2130 w cM) (fun hk he h => SoO.evo (not_hit hk (by decide)) he h)⟩] lg ke (fm1 dy) ?_ ?_
      ·refine sL ta122 cn V <| sM f1 <| sM aV <| sM cm ?_
       refine sc (fun own a wx hf af hE => ?_) ?_
       ·obtain ⟨kp, kq, kr, ks, b_Jx, -⟩ := hf
        exact px (or_call cf60 (args4 kp kq kr ks) (ih _ (forth own (look0 [(2120, 1)])) Tx lf ca sv th j.2.2 Jx c j.1 o (look0_le rfl) hL hS (SoO.forth_ (m := (look0 [(2120, 1)])) b_Jx) cM jp) (post_mems0 (m := (look0 [(2120, 1)])) (m' := (look0 [(1, 2130)])) (hm_of rfl) (fun K w' a' h1 h => ⟨(), h1, SoO.back_ h (by decide)⟩)))
       exact steps_nil
      intro hi jJ kT kf lh iV ir cX
      obtain ⟨f5, f6, f7, f8, f9, ea⟩ := kt6 iV f2 cm cn f3 f4 aV
      obtain ⟨⟨_, (mu : jJ.eval (.tmp 117) = .tuple #[]), (dz : SoO Jx hi 2130 kT cM)⟩, -⟩ := ir [4] rfl
      have hY := Evo.step hX l cX rfl
      have bh := be_ cX V
      refine rq 130 hi (bz 3) [dv [] [14] 118 (Zi j.1), dv [0] [] 119 (Zi (ad j.1 1)), dv [1] [] 1 (Zi (ad j.1 1))] lh kf ?_ ?_
      ·exact sM ea <| sF (fun f => or_add f.1 rfl rfl) <| sA <| steps_nil
      intro kH ml mO kg li iW it bG
      obtain ⟨gb, gc, gd, ge, gf⟩ := kt5 iW f5 f6 f7 f8 f9
      have ga := gv (it [2] rfl) rfl
      have hZ := Evo.step hY l bG rfl
      have bi := be_ bG bh
      have dA := SoO.evo (by decide) bG dz
      exact (cE _ _ (rl [(2130, 2054)] kH) _ _ _ _ _ _ kg li ga gb gc gd ge gf (Evo.rl_ hZ l rfl) (BlkO.rl_ bi) (SoO.rl_ dA) t).1
     refine rq_seq 130 hh [0, 0, 3, 7] [dv [] [17] 120 (Zi (sb i j.1)), dv [] [18] 121 (Zi M), dv [0, 1] [] 122 (.bool (decide (M ≤ (sb i j.1)))), dv [2] [] 8 (.bool (decide (M ≤ (sb i j.1))))] hu eB ?_ ?_
     ·exact sM d9 <| sM aU <| sF (fun f => or_geq f.1 f.2.1 rfl) <| sA <| steps_nil
     intro kI mm mP kh lj iX iu bH
     obtain ⟨gg, gh, co, cp, gj, aW⟩ := kt6 iX ch ci cj ck cl aT
     have gi := gv (iu [3] rfl) rfl
     have h0 := Evo.step c5 l bH rfl
     have W := be_ bH U
     have dB := SoO.evo (by decide) bH aI
     obtain ⟨cN, jq, t⟩ := obind t
     refine rr_seq 130 [Fct.soAt Jx 2120 j.2.2] kI [2120] [0, 0, 2, 0, 0, 31] [dv [] [4] 123 (.agg #[.func (.func 48) #[] #[ca], .func (.func 71) #[] #[sv, th]]), dv [] [14] 124 (Zi j.1), dv [1] [] 125 (Zi (ad j.1 1)), dv [] [2] 126 (Zi i), dv [] [3] 127 (Zi o), ⟨[0, 2, 3, 4, 6], [], [2120], Fct.mems [2135] 128 (fun (_ : Unit) => .tuple #[]) (fun (_ : Unit) own w => SoO Jx own 2135 w cN) (fun hk he h => SoO.evo (not_hit hk (by decide)) he h)⟩] lj kh (fm1 dB) ?_ ?_
     ·refine sL ta122 cp W <| sM aW <| sF (fun f => or_add f.1 rfl rfl) <| sM gh <| sM co ?_
      refine sc (fun own a wx hf af hE => ?_) ?_
      ·obtain ⟨ku, kv, kw, kx, b_Jx, -⟩ := hf
       exact px (or_call cf60 (args4 ku kv kw kx) (ih _ (forth own (look0 [(2120, 1)])) Tx lf ca sv th j.2.2 Jx (ad j.1 1) i o (look0_le rfl) hL hS (SoO.forth_ (m := (look0 [(2120, 1)])) b_Jx) cN jq) (post_mems0 (m := (look0 [(2120, 1)])) (m' := (look0 [(1, 2135)])) (hm_of rfl) (fun K w' a' h1 h => ⟨(), h1, SoO.back_ h (by decide)⟩)))
      exact steps_nil
     intro hj jK kU ki lk iY iv cY
     obtain ⟨gk, gl, gm, gn, go, eb⟩ := kt6 iY gg co cp gi gj aW
     obtain ⟨⟨_, (mv : jK.eval (.tmp 128) = .tuple #[]), (dC : SoO Jx hj 2135 kU cN)⟩, -⟩ := iv [5] rfl
     have h2 := Evo.step h0 l cY rfl
     have bj := be_ cY W
     refine rq 130 hj (bz 2) [dv [] [14] 129 (Zi j.1), dv [0] [] 2 (Zi j.1)] lk ki ?_ ?_
     ·exact sM eb <| sA <| steps_nil
     intro kJ mn mQ kj ll iZ iw bI
     obtain ⟨gp, gr, gs, gt, gu⟩ := kt5 iZ gk gl gm gn go
     have gq := gv (iw [1] rfl) rfl
     have h3 := Evo.step h2 l bI rfl
     have bk := be_ bI bj
     have dD := SoO.evo (by decide) bI dC
     exact (cE _ _ (rl [(2135, 2054)] kJ) _ _ _ _ _ _ kj ll gp gq gr gs gt gu (Evo.rl_ h3 l rfl) (BlkO.rl_ bk) (SoO.rl_ dD) t).1
    obtain ⟨kY, jw, t⟩ := obind t
    refine rq_seq 130 ay (bz 8) [dv [] [8] 61 (.bool d), dv [0] [] 62 (.bool d), dc [1] [9] d 63 (.bool k), dv [1, 2] [] 64 (.bool (d && k)), dv [3] [] 65 (.bool (d && k)), dc [4] [12] (d && k) 66 (Zi F), dc [4, 5] [] (d && k) 67 (.bool (decide (F = 1))), dv [4, 6] [] 68 (.bool kY)] k7 j6 ?_ ?_
    ·exact sM cb <| sV <| cT (fun _ s _ _ => or_move (s.1.trans cc)) <| sF (fun f => or_and f.1 (fun hx => f.2.1.1 hx) rfl rfl) <| sV <| cT (fun _ s _ _ => or_move (s.1.trans dS)) <| cT (fun f _ _ hg => or_eql (f.2.1.1 hg) rfl rfl) <| sF (fun f => or_and f.1 (fun hx => f.2.1.1 hx) rfl (osome jw).symm) <| steps_nil
    intro hl mo mR eC hv i0 ix bJ
    obtain ⟨aj, ak, cq, al, cr, cs, aX, aY⟩ := kt8 i0 fo fp fq fr cb cc dQ dR
    have ec := gv (ix [7] rfl) rfl
    have c6 := Evo.step hG l bJ rfl
    have G := be_ bJ ba
    have aJ := SoO.evo (by decide) bJ dq
    refine fl_cond ec t (fun jS t => ?_) (fun jS t => ?_)
    ·obtain ⟨aA, jr, t⟩ := obind t
     refine rr_seq 130 [Fct.soAt Jx 2096 av] hl [2096] [0, 0, 0, 7] [dv [] [4] 69 (.agg #[.func (.func 48) #[] #[ca], .func (.func 71) #[] #[sv, th]]), dv [] [1] 70 (Zi c), dv [] [2] 71 (Zi i), ⟨[0, 1, 2, 4], [], [2096], Fct.mems [2142] 72 (fun (_ : Unit) => .bool aA.1) (fun (_ : Unit) own w => SoO Jx own 2142 w aA.2) (fun hk he h => SoO.evo (not_hit hk (by decide)) he h)⟩] hv eC (fm1 aJ) ?_ ?_
     ·refine sL ta122 al G <| sM aj <| sM ak ?_
      refine sc (fun own a wx hf af hE => ?_) ?_
      ·obtain ⟨lH, lI, lJ, b_Jx, -⟩ := hf
       exact px (or_call cf79 (args3 lH lI lJ) (sort_partialInsertionSort_func_w _ (forth own (look0 [(2096, 1)])) Tx lf ca sv th av Jx c i (look0_le rfl) hL hS (SoO.forth_ (m := (look0 [(2096, 1)])) b_Jx) aA jr) (post_mems0 (m := (look0 [(2096, 1)])) (m' := (look0 [(1, 2142)])) (hm_of rfl) (fun K w' a' h1 h => ⟨(), h1, SoO.back_ h (by decide)⟩)))
      exact steps_nil
     intro cJ jL kV eD lm i1 iy cZ
     obtain ⟨gw, gx, gy, gz, gA, gB, ed, ee⟩ := kt8 i1 aj ak cq al cr cs aX aY
     obtain ⟨⟨_, (ef : jL.eval (.tmp 72) = .bool aA.1), (aK : SoO Jx cJ 2142 kV aA.2)⟩, -⟩ := iy [3] rfl
     have c7 := Evo.step c6 l cZ rfl
     have bl := be_ cZ G
     refine fl_cond ef t (fun jT t => ?_) (fun jT t => ?_)
     ·refine fl_ret ?_
      refine ji _ _ _ rfl ?_
      refine bV _ _ _ rfl ?_
      replace t := cR _ t
      refine bU _ _ _ rfl ?_
      refine bT _ _ _ rfl ?_
      obtain rfl := osome t
      exact g4 _ _ _ _ (.inl rfl) eD (results0_ rfl ) ⟨(rl [(2142, 1)] cJ), rfl, (Evo.rl_ c7 l rfl), (SoO.rl_ aK)⟩
     refine fl_skip ?_
     exact (ew _ _ (rl [(2142, 2108)] cJ) _ eD lm gw gx gy gz gA gB ed ee (Evo.rl_ c7 l rfl) (BlkO.rl_ bl) (SoO.rl_ aK) t)
    refine fl_skip ?_
    exact (ew _ _ (rl [(2096, 2108)] hl) _ eC hv aj ak cq al cr cs aX aY (Evo.rl_ c6 l rfl) (BlkO.rl_ G) (SoO.rl_ aJ) t)
   refine rq_seq 130 ha (bz 2) [dv [] [12] 49 (Zi q.2.1), dv [0] [] 50 (.bool (decide (q.2.1 = 2)))] k6 j5 ?_ ?_
   ·exact sM aO <| sF (fun f => or_eql f.1 rfl rfl) <| steps_nil
   intro hm mp mS eE hw de iz bK
   obtain ⟨am, an, ct, ao, cu, cv, aZ, a1⟩ := kt8 de fi fj fk fl fm fn dO dP
   have eg := kt de aO
   have eh := gv (iz [1] rfl) rfl
   have c8 := Evo.step hP l bK rfl
   have H := be_ bK a9
   have aL := SoO.evo (by decide) bK dp
   refine fl_cond eh t (fun jU t => ?_) (fun jU t => ?_)
   ·obtain ⟨cO, js, t⟩ := obind t
    refine rr_seq 130 [Fct.soAt Jx 2083 q.2.2] hm [2083] [0, 0, 0, 7] [dv [] [4] 51 (.agg #[.func (.func 48) #[] #[ca], .func (.func 71) #[] #[sv, th]]), dv [] [1] 52 (Zi c), dv [] [2] 53 (Zi i), ⟨[0, 1, 2, 4], [], [2083], Fct.mems [2148] 54 (fun (_ : Unit) => .tuple #[]) (fun (_ : Unit) own w => SoO Jx own 2148 w cO) (fun hk he h => SoO.evo (not_hit hk (by decide)) he h)⟩] hw eE (fm1 aL) ?_ ?_
    ·refine sL ta122 ao H <| sM am <| sM an ?_
     refine sc (fun own a wx hf af hE => ?_) ?_
     ·obtain ⟨lE, lF, lG, b_Jx, -⟩ := hf
      exact px (or_call cf78 (args3 lE lF lG) (sort_reverseRange_func_w _ (forth own (look0 [(2083, 1)])) Tx lf ca sv th q.2.2 Jx c i (look0_le rfl) hL hS (SoO.forth_ (m := (look0 [(2083, 1)])) b_Jx) cO js) (post_mems0 (m := (look0 [(2083, 1)])) (m' := (look0 [(1, 2148)])) (hm_of rfl) (fun K w' a' h1 h => ⟨(), h1, SoO.back_ h (by decide)⟩)))
     exact steps_nil
    intro hn jM kW kk ln i2 iA c0
    obtain ⟨cw, cx, gC, gD, gE, gF, ei, ej⟩ := kt8 i2 am an ct ao cu cv aZ a1
    obtain ⟨⟨_, (m2 : jM.eval (.tmp 54) = .tuple #[]), (dE : SoO Jx hn 2148 kW cO)⟩, -⟩ := iA [3] rfl
    have h4 := Evo.step c8 l c0 rfl
    have bm := be_ c0 H
    refine rq_seq 130 hn [0, 1, 0, 0, 12, 31, 63] [dv [] [2] 55 (Zi i), dv [0] [] 56 (Zi (sb i 1)), dv [] [11] 57 (Zi q.1), dv [] [1] 58 (Zi c), dv [2, 3] [] 59 (Zi (sb q.1 c)), dv [1, 4] [] 60 (Zi (sb (sb i 1) (sb q.1 c))), dv [5] [] 11 (Zi (sb (sb i 1) (sb q.1 c)))] ln kk ?_ ?_
    ·exact sM cx <| sF (fun f => or_sub f.1 rfl rfl) <| sM ej <| sM cw <| sF (fun f => or_sub f.1 f.2.1 rfl) <| sF (fun f => or_sub f.1 f.2.1 rfl) <| sA <| steps_nil
    intro kK mq mT kl lo i3 iB bL
    obtain ⟨gG, gH, gI, gJ, gK, gL, ek⟩ := kt7 i3 cw cx gC gD gE gF ei
    have el := gv (iB [6] rfl) rfl
    have h5 := Evo.step h4 l bL rfl
    have bn := be_ bL bm
    have dF := SoO.evo (by decide) bL dE
    refine rq 130 kK (bz 1) [dv [] [] 12 (Zi 1)] lo kl ?_ ?_
    ·exact sO (or_assign rfl) <| steps_nil
    intro kL mr mU km lp i4 iC bM
    obtain ⟨gM, gN, gO, gP, gQ, gR, em, en⟩ := kt8 i4 gG gH gI gJ gK gL ek el
    have eo := gv (iC [0] rfl) rfl
    have h6 := Evo.step h5 l bM rfl
    have bo := be_ bM bn
    have dG := SoO.evo (by decide) bM dF
    exact (ev _ _ (rl [(2148, 2096)] kL) _ _ _ km lp gM gN gO gP gQ gR em en eo (Evo.rl_ h6 l rfl) (BlkO.rl_ bo) (SoO.rl_ dG) t)
   refine fl_skip ?_
   exact (ev _ _ (rl [(2083, 2096)] hm) _ _ _ eE hw am an ct ao cu cv aZ a1 eg (Evo.rl_ c8 l rfl) (BlkO.rl_ H) (SoO.rl_ aL) t)
  refine rq_seq 130 g8 (bz 2) [dv [] [8] 34 (.bool d), dv [0] [] 35 (.bool (!d))] hr ez ?_ ?_
  ·exact sM b6 <| sF (fun f => or_not f.1 rfl) <| steps_nil
  intro ho ms mV eF hy i5 iD bN
  obtain ⟨ap, aq, cy, ar, cz, cA, a2⟩ := kt7 i5 b3 b4 fd b5 b6 fe dL
  have ep := gv (iD [1] rfl) rfl
  have c9 := Evo.step c3 l bN rfl
  have I := be_ bN R
  have aM := SoO.evo (by decide) bN aF
  refine fl_cond ep t (fun jV t => ?_) (fun jV t => ?_)
  ·obtain ⟨cP, jt, t⟩ := obind t
   refine rr_seq 130 [Fct.soAt Jx 1730 J] ho [1730] [0, 0, 0, 7] [dv [] [4] 36 (.agg #[.func (.func 48) #[] #[ca], .func (.func 71) #[] #[sv, th]]), dv [] [1] 37 (Zi c), dv [] [2] 38 (Zi i), ⟨[0, 1, 2, 4], [], [1730], Fct.mems [2155] 39 (fun (_ : Unit) => .tuple #[]) (fun (_ : Unit) own w => SoO Jx own 2155 w cP) (fun hk he h => SoO.evo (not_hit hk (by decide)) he h)⟩] hy eF (fm1 aM) ?_ ?_
   ·refine sL ta122 ar I <| sM ap <| sM aq ?_
    refine sc (fun own a wx hf af hE => ?_) ?_
    ·obtain ⟨ly, lz, lA, b_Jx, -⟩ := hf
     exact px (or_call cf76 (args3 ly lz lA) (sort_breakPatterns_func_w _ (forth own (look0 [(1730, 1)])) Tx lf ca sv th J Jx c i (look0_le rfl) hL hS (SoO.forth_ (m := (look0 [(1730, 1)])) b_Jx) cP jt) (post_mems0 (m := (look0 [(1730, 1)])) (m' := (look0 [(1, 2155)])) (hm_of rfl) (fun K w' a' h1 h => ⟨(), h1, SoO.back_ h (by decide)⟩)))
    exact steps_nil
   intro hp jN kX kn lq i6 iE c1
   obtain ⟨gS, gT, gU, gV, gW, gX, eq⟩ := kt7 i6 ap aq cy ar cz cA a2
   obtain ⟨⟨_, (m1 : jN.eval (.tmp 39) = .tuple #[]), (dH : SoO Jx hp 2155 kX cP)⟩, -⟩ := iE [3] rfl
   have h7 := Evo.step c9 l c1 rfl
   have bp := be_ c1 I
   refine rq 130 hp (bz 3) [dv [] [3] 40 (Zi u), dv [0] [] 41 (Zi (sb u 1)), dv [1] [] 3 (Zi (sb u 1))] lq kn ?_ ?_
   ·exact sM gU <| sF (fun f => or_sub f.1 rfl rfl) <| sA <| steps_nil
   intro kM mt mW ko lr i7 iF bO
   obtain ⟨gY, gZ, g1, g2, g3, er⟩ := kt6 i7 gS gT gV gW gX eq
   have g0 := gv (iF [2] rfl) rfl
   have h8 := Evo.step h7 l bO rfl
   have bq := be_ bO bp
   have dI := SoO.evo (by decide) bO dH
   exact (eu _ _ (rl [(2155, 2079)] kM) _ _ ko lr gY gZ g0 g1 g2 g3 er (Evo.rl_ h8 l rfl) (BlkO.rl_ bq) (SoO.rl_ dI) t)
  refine fl_skip ?_
  exact (eu _ _ (rl [(1730, 2079)] ho) _ _ eF hy ap aq cy ar cz cA a2 (Evo.rl_ c9 l rfl) (BlkO.rl_ I) (SoO.rl_ aM) t)
theorem exact_Less_w (w : World) (b : Int × Int) (a : Int × Int) (r : Bool) (L : exact_Less b a = some r) :
  Calls Try.prog 54 #[P2 b, P2 a] w fun e T => ∃ E : Own, e = .returned (.bool r) ∧ Evo [] (fun _ => 0) E w T := by
 refine fl_enter (n := 24) rfl rfl rfl (Nat.le_of_ble_eq_true rfl) ?_
 intro X Q d0 V m C
 have J := m 0 _ rfl
 have K := m 1 _ rfl
 clear m
 have I : Evo [] (fun _ => 0) (fun _ => 0) w w := Evo.refl _ _ _
 refine rq_seq 24 (fun _ => 0) [0, 0, 0] [⟨[], [0], [], Fct.blk 19 2 (fun g => pt g 0) 111 #[Zi b.1, Zi b.2]⟩, ⟨[], [1], [], Fct.blk 21 3 (fun g => pt g 0) 111 #[Zi a.1, Zi a.2]⟩, dv [] [] 4 (.bool false)] V d0 ?_ ?_
 ·exact sS (fun s => nw1 (s.1.trans J)) <| sS (fun s => nw1 (s.1.trans K)) <| sO (or_assign rfl) <| steps_nil
 intro q u F G O P A v
 obtain ⟨⟨k, (i : u.eval (.tmp 2) = pt k 0), (c : BlkO q 19 F k 111 #[Zi b.1, Zi b.2])⟩, ⟨l, (j : u.eval (.tmp 3) = pt l 0), (d : BlkO q 21 F l 111 #[Zi a.1, Zi a.2])⟩, -⟩ := A [0, 1] rfl
 have y := es_ I v
 obtain ⟨t, D, L⟩ := obind L
 refine rq_seq 24 q [0, 1, 0, 4, 15, 31, 63, 127, 63, 319, 1023, 2047, 4095, 8191, 4095, 20479, 65535, 131071, 262143, 524287] [dv [] [2] 5 (pt k 0), dv [0] [] 6 (Zi b.1), dv [] [3] 7 (pt l 0), dv [2] [] 8 (Zi a.1), dv [1, 3] [] 9 (.bool (decide (b.1 < a.1))), dv [4] [] 10 (.bool (decide (b.1 < a.1))), dc [5] [2] (!(decide (b.1 < a.1))) 11 (pt k 0), dc [5, 6] [] (!(decide (b.1 < a.1))) 12 (Zi b.1), dc [5] [3] (!(decide (b.1 < a.1))) 13 (pt l 0), dc [5, 8] [] (!(decide (b.1 < a.1))) 14 (Zi a.1), dc [5, 7, 9] [] (!(decide (b.1 < a.1))) 15 (.bool (decide (b.1 = a.1))), dc [5, 10] [] (!(decide (b.1 < a.1))) 16 (.bool (decide (b.1 = a.1))), dc [11] [2] ((!(decide (b.1 < a.1))) && (decide (b.1 = a.1))) 17 (pt k 1), dc [11, 12] [] ((!(decide (b.1 < a.1))) && (decide (b.1 = a.1))) 18 (Zi b.2), dc [11] [3] ((!(decide (b.1 < a.1))) && (decide (b.1 = a.1))) 19 (pt l 1), dc [11, 14] [] ((!(decide (b.1 < a.1))) && (decide (b.1 = a.1))) 20 (Zi a.2), dc [11, 13, 15] [] ((!(decide (b.1 < a.1))) && (decide (b.1 = a.1))) 21 (.bool (decide (b.2 < a.2))), dc [5, 11, 16] [] (!(decide (b.1 < a.1))) 22 (.bool t), dv [5, 17] [] 23 (.bool ((decide (b.1 < a.1)) || t)), dv [18] [] 4 (.bool ((decide (b.1 < a.1)) || t))] O G ?_ ?_
 ·exact sS (fun s => or_field fo111_0 (s.1.trans i) (by rfl)) <| sG to3 c <| sS (fun s => or_field fo111_0 (s.1.trans j) (by rfl)) <| sG to3 d <| sF (fun f => or_lss f.1 f.2.1 rfl) <| sV <| cF (fun _ s _ _ => or_field fo111_0 (s.1.trans i) (by rfl)) <| cF (fun f _ p h => ld1 to3 (f.2.1.1 h) (be_ p c)) <| cF (fun _ s _ _ => or_field fo111_0 (s.1.trans j) (by rfl)) <| cF (fun f _ p h => ld1 to3 (f.2.1.1 h) (be_ p d)) <| cF (fun f _ _ h => or_eql (f.2.1.1 h) (f.2.2.1.1 h) rfl) <| cF (fun f _ _ h => or_move (f.2.1.1 h)) <| cTc (fun _ s _ _ => or_field fo111_1 (s.1.trans i) (by rfl)) <| cTc (fun f _ p h => ld1 to3 (f.2.1.1 h) (be_ p c)) <| cTc (fun _ s _ _ => or_field fo111_1 (s.1.trans j) (by rfl)) <| cTc (fun f _ p h => ld1 to3 (f.2.1.1 h) (be_ p d)) <| cTc (fun f _ _ h => or_lss (f.2.1.1 h) (f.2.2.1.1 h) rfl) <| cF (fun f _ _ h => or_and (f.2.1.1 h) (fun M => f.2.2.1.1 (gI h M)) rfl (osome D).symm) <| sF (fun f => or_or f.1 rfl (fun M => f.2.1.1 M) rfl) <| sA <| steps_nil
 intro N S U H W R B x
 have o := gv (B [19] rfl) rfl
 have z := es_ y x
 refine fl_ret ?_
 obtain rfl := osome L
 exact C _ _ _ _ (.inl rfl) H (results1_ rfl (RVal.tmp_ o)) ⟨N, rfl, z⟩
theorem window_Less_w (w : World) (d : Int × Int × Int) (c : Int × Int × Int) (r : Bool) (A : window_Less d c = some r) :
  Calls Try.prog 44 #[.agg #[Zi d.1, Zi d.2.1, Zi d.2.2], .agg #[Zi c.1, Zi c.2.1, Zi c.2.2]] w fun e w' => ∃ V : Own, e = .returned (.bool r) ∧ Evo [] (fun _ => 0) V w w' := by
 refine fl_enter (n := 26) rfl rfl rfl (Nat.le_of_ble_eq_true rfl) ?_
 intro a0 Q d0 z0 q v
 have ae := q 0 _ rfl
 have af := q 1 _ rfl
 clear q
 have ad : Evo [] (fun _ => 0) (fun _ => 0) w w := Evo.refl _ _ _
 refine rq_seq 26 (fun _ => 0) [0, 0, 0] [⟨[], [0], [], Fct.blk 23 2 (fun g => pt g 0) 28 #[Zi d.1, Zi d.2.1, Zi d.2.2]⟩, ⟨[], [1], [], Fct.blk 25 3 (fun g => pt g 0) 28 #[Zi c.1, Zi c.2.1, Zi c.2.2]⟩, dv [] [] 4 (.bool false)] z0 d0 ?_ ?_
 ·exact sS (fun s => nw1 (s.1.trans ae)) <| sS (fun s => nw1 (s.1.trans af)) <| sO (or_assign rfl) <| steps_nil
 intro B D W Z ai aj L F
 obtain ⟨⟨l, (o : D.eval (.tmp 2) = pt l 0), (h : BlkO B 23 W l 28 #[Zi d.1, Zi d.2.1, Zi d.2.2])⟩, ⟨m, (p : D.eval (.tmp 3) = pt m 0), (i : BlkO B 25 W m 28 #[Zi c.1, Zi c.2.1, Zi c.2.2])⟩, -⟩ := L [0, 1] rfl
 have I := es_ ad F
 refine fl_seq (fun am R S => ?_)
 refine rq_seq 26 B [0, 1, 0, 4, 15] [dv [] [2] 5 (pt l 0), dv [0] [] 6 (Zi d.1), dv [] [3] 7 (pt m 0), dv [2] [] 8 (Zi c.1), dv [1, 3] [] 9 (.bool (!decide (d.1 = c.1)))] ai Z ?_ ?_
 ·exact sS (fun s => or_field fo28_0 (s.1.trans o) (by rfl)) <| sG to3 h <| sS (fun s => or_field fo28_0 (s.1.trans p) (by rfl)) <| sG to3 i <| sF (fun f => or_neq f.1 f.2.1 rfl) <| steps_nil
 intro U an ar E X P M t
 obtain ⟨j, k⟩ := kt2 P o p
 have x := gv (M [4] rfl) rfl
 have u := es_ I t
 obtain ⟨a, b⟩ := be2 t h i
 refine fl_cond x A (fun Y A => ?_) (fun Y A => ?_)
 ·refine rq_seq 26 U [0, 1, 0, 4, 15, 31] [dv [] [2] 10 (pt l 0), dv [0] [] 11 (Zi d.1), dv [] [3] 12 (pt m 0), dv [2] [] 13 (Zi c.1), dv [1, 3] [] 14 (.bool (decide (d.1 < c.1))), dv [4] [] 4 (.bool (decide (d.1 < c.1)))] X E ?_ ?_
  ·exact sS (fun s => or_field fo28_0 (s.1.trans j) (by rfl)) <| sG to3 a <| sS (fun s => or_field fo28_0 (s.1.trans k) (by rfl)) <| sG to3 b <| sF (fun f => or_lss f.1 f.2.1 rfl) <| sA <| steps_nil
  intro ag ao au aa ax ak N G
  have y := gv (N [5] rfl) rfl
  have J := es_ u G
  refine fl_ret ?_
  refine S _ _ _ rfl ?_
  obtain rfl := osome A
  exact v _ _ _ _ (.inl rfl) aa (results1_ rfl (RVal.tmp_ y)) ⟨ag, rfl, J⟩
 refine fl_skip ?_
 refine R _ _ ?_
 obtain ⟨C, T, A⟩ := obind A
 refine rq_seq 26 U [0, 1, 0, 4, 15, 0, 32, 0, 128, 480, 1023, 2047] [dv [] [2] 15 (pt l 1), dv [0] [] 16 (Zi d.2.1), dv [] [2] 17 (pt l 2), dv [2] [] 18 (Zi d.2.2), dv [1, 3] [] 19 (P2 d.2), dv [] [3] 20 (pt m 1), dv [5] [] 21 (Zi c.2.1), dv [] [3] 22 (pt m 2), dv [7] [] 23 (Zi c.2.2), dv [6, 8] [] 24 (P2 c.2), dv [4, 9] [] 25 (.bool C), dv [10] [] 4 (.bool C)] X E ?_ ?_
 ·exact sS (fun s => or_field fo28_1 (s.1.trans j) (by rfl)) <| sG to3 a <| sS (fun s => or_field fo28_2 (s.1.trans j) (by rfl)) <| sG to3 a <| sF (fun f => ok2 f.1 f.2.1) <| sS (fun s => or_field fo28_1 (s.1.trans k) (by rfl)) <| sG to3 b <| sS (fun s => or_field fo28_2 (s.1.trans k) (by rfl)) <| sG to3 b <| sF (fun f => ok2 f.1 f.2.1) <| sF (fun f => or_call cf54 (args2 f.1 f.2.1) (exact_Less_w _ d.2 c.2  C T) post_val) <| sA <| steps_nil
 intro ah ap av ab ay al O H
 have z := gv (O [11] rfl) rfl
 have K := es_ u H
 refine fl_ret ?_
 obtain rfl := (osome A).symm
 exact v _ _ _ _ (.inl rfl) ab (results1_ rfl (RVal.tmp_ z)) ⟨ah, rfl, K⟩
theorem pack_packed_1_w (w : World) (K : Int) (L : Int) (v : List ((Int × Int × Int) × (List Int))) (C : Nat) (Y : TypeId) (b : Option Addr) (g : Nat) (p : BlkO (fun _ => 0) 0 w C Y #[sl b v g]) (c : RdO (fun _ => 0) [0] w R30 b g v) (r : Bool) (x : pack_packed_1 K L v = some r) :
  Calls Try.prog 48 #[Zi K, Zi L, pt C 0] w fun e w' => ∃ M : Own, e = .returned (.bool r) ∧ Evo [] (fun _ => 0) M w w' := by
 refine fl_enter (n := 17) rfl rfl rfl (Nat.le_of_ble_eq_true rfl) ?_
 intro a0 Q d0 z0 h J
 have T := h 0 _ rfl
 have U := h 1 _ rfl
 have V := h 2 _ rfl
 clear h
 have S : Evo [] (fun _ => 0) (fun _ => 0) w w := Evo.refl _ _ _
 refine rq_seq 17 (fun _ => 0) (bz 1) [dv [] [] 5 (.bool false)] z0 d0 ?_ ?_
 ·exact sO (or_assign rfl) <| steps_nil
 intro W ad ai O Z H aa D
 obtain ⟨q, t, i⟩ := kt3 H T U V
 have d := es_ S D
 obtain ⟨m, j, x⟩ := obind x
 obtain ⟨o, k, x⟩ := obind x
 obtain ⟨z, I, x⟩ := obind x
 refine rd_seq g_mixed 17 [] W [] [0, 0, 3, 7, 15, 0, 0, 96, 224, 480, 1023, 2047] [dv [] [2] 6 (sl b v g), dv [] [0] 7 (Zi K), dv [0, 1] [] 8 (.pointer (some ((adr b).add ((K : Int).toNat * R30.s)))), dv [2] [] 9 (.pointer (some ((adr b).add ((K : Int).toNat * R30.s)))), ⟨[3], [], [], Fct.nest X30 [0] 10 (fun (y : (Unit × (Option Addr × Nat))) => .agg #[Zi m.1.1, Zi m.1.2.1, Zi m.1.2.2]) m⟩, dv [] [2] 11 (sl b v g), dv [] [1] 12 (Zi L), dv [5, 6] [] 13 (.pointer (some ((adr b).add ((L : Int).toNat * R30.s)))), dv [7] [] 14 (.pointer (some ((adr b).add ((L : Int).toNat * R30.s)))), ⟨[8], [], [], Fct.nest X30 [0] 15 (fun (y : (Unit × (Option Addr × Nat))) => .agg #[Zi o.1.1, Zi o.1.2.1, Zi o.1.2.2]) o⟩, dv [4, 9] [] 16 (.bool z), dv [10] [] 5 (.bool z)] Z O nm_ ?_ ?_
 ·refine sL1 to23 i (be_ d p) <| sM q <| sF (fun f => or_index (R := R30) (l := v) tl23 f.1 f.2.1 (RdO.some_ (RdO.evo rfl d c) j) j) <| sF (fun f => or_field fo30_0 f.1 (Addr.add_zero' _)) <| sFE (fun f N => or_loadN X30 0 3 ta28 f.1 (Addr.add_zero' _).symm (RdO.evo rfl N (RdO.evo rfl d c)) j (fun _ => rfl) (fun _ => rfl)) <| sL1 to23 i (be_ d p) <| sM t <| sF (fun f => or_index (R := R30) (l := v) tl23 f.1 f.2.1 (RdO.some_ (RdO.evo rfl d c) k) k) <| sF (fun f => or_field fo30_0 f.1 (Addr.add_zero' _)) <| sFE (fun f N => or_loadN X30 0 3 ta28 f.1 (Addr.add_zero' _).symm (RdO.evo rfl N (RdO.evo rfl d c)) k (fun _ => rfl) (fun _ => rfl)) ?_
  refine sc (fun own a wx hf ag N => ?_) ?_
  ·obtain ⟨⟨⟨_, _⟩, A, ⟨-, -⟩⟩, ⟨⟨_, _⟩, B, ⟨-, -⟩⟩, -⟩ := hf
   exact px (or_call cf44 (args2 A B) (window_Less_w _ m.1 o.1  z I) post_val)
  exact sA <| steps_nil
 intro X ae aj P al ab G E
 have u := gv (G [11] rfl) rfl
 have F := es_ d E
 refine fl_ret ?_
 obtain rfl := (osome x).symm
 exact J _ _ _ _ (.inl rfl) P (results1_ rfl (RVal.tmp_ u)) ⟨X, rfl, F⟩
theorem sortAll23_48_w {own : Own} {lab lab2 labB : Nat} {L : List Nat} {w : World} {gb : Nat} {tb : TypeId} {A : Option Addr} {c : Nat} {l l' : List ((Int × Int × Int) × (List Int))} (hrow : RwO own lab L w 30 R30 A c l) (hbox : BlkO own labB w gb tb #[sl A l c]) (g : lab ≠ 0) (hL : lab ∉ L) (hB : labB ≠ lab) (hz : sortAll23_48 l = some l') :
  Calls Try.prog 47 #[.iface 23 (sl A l c), .func (.func 48) #[] #[pt gb 0]] w fun e' f => e' = .returned (.tuple #[]) ∧ ∃ d : Own, Evo [lab] own d w f ∧ RwO d lab2 L f 30 R30 A c l' := by
 rcases srtO_cases hz with ⟨e, rfl⟩ | ⟨e, h, hz, _⟩
 ·exact (sortTiny23 e).mono fun e' f ⟨m, hw⟩ => ⟨m, sortT hrow g hL hw⟩
 ·exact sortSl (ρ := srt_ren) srt6 (ie := srtE23) (i := srtT23) (t := 23) (by kernel_rfl) (by kernel_rfl) (by kernel_rfl) (by kernel_rfl) 25 (fun _ => by kernel_rfl) (fun _ => by kernel_rfl) (R := R30) (by kernel_rfl) (gS := false) srtX
   (fun w gb tb A c l x y r k j hr => pack_packed_1_w w x y l gb tb A c k j r hr) (fun own w ca sv th l J a b lim r n hl o hj hr => sort_pdqsort_func_w 12 w own _ _ ca sv th l J a b lim n hl o hj r hr) hrow hbox g hL hB e h (srtK9 e ▸ by decide) (fun p K q => Any.sort_Slice_of_pdq srt6 23 _ srtT23 srtE23 (by kernel_rfl) (by kernel_rfl) (by kernel_rfl) (by kernel_rfl) 25 (fun _ => by kernel_rfl) p _ _ h _ (by rw [srtK9 e]; kernel_rfl) _ _ _ _ K q) hz
set_option maxHeartbeats 2000000 in
theorem pack_packed_z (w : World) (own : Own) (q : List Int) (o : Option Addr) (p : Nat) (l2 : List ((Int × Int × Int) × (List Int))) (be : Option Addr) (cR : Nat) (m : ∀ b, own b ≤ 1) (ga : RdO own [1] w R5 o p q) (h5 : RdO own [1] w R30 be cR l2) (r : (((List Int) × (List (List Int)) × (List ((Int × Int × Int) × Int))) × Int) ⊕ (Unit × Int)) (D : pack_packed q l2 = some r) :
  Calls Try.prog 23 #[sl o q p, sl be l2 cR] w fun e w' => match r with
   | .inl r => ∃ (G : Own) (x : (Option Addr × Nat) × (Option Addr × Nat) × (Option Addr × Nat) × (Option Addr × Nat)), e = .returned (.tuple #[.pointer (some ⟨x.1.2, 0, none⟩), Zi r.2]) ∧ Evo [] own G w w' ∧ RdO G [1, 3] w' R5 x.2.1.1 x.2.1.2 r.1.1 ∧ RwO G 4 [1, 5] w' 22 R22 x.2.2.1.1 x.2.2.1.2 r.1.2.1 ∧ RwO G 6 [] w' 66 R66 x.2.2.2.1 x.2.2.2.2 r.1.2.2 ∧ BlkO G 2 w' x.1.2 64 #[.slice x.2.1.1 r.1.1.length x.2.1.2, .slice x.2.2.1.1 r.1.2.1.length x.2.2.1.2, .slice x.2.2.2.1 r.1.2.2.length x.2.2.2.2]
   | .inr x => ∃ G : Own, e = .returned (.tuple #[.pointer none, Zi x.2]) ∧ Evo [] own G w w' := by
 refine fl_enter (n := 99) rfl rfl rfl (Nat.le_of_ble_eq_true rfl) ?_
 intro a0 Q d0 z0 eX fb
 have j2 := eX 0 _ rfl
 have j3 := eX 1 _ rfl
 clear eX
 have j1 : Evo [] own own w w := Evo.refl _ _ _
 refine rq_seq 99 own (bz 2) [dv [] [] 4 (.pointer none), dv [] [] 5 (Zi 0)] z0 d0 ?_ ?_
 ·exact sO (or_assign rfl) <| sO (or_assign rfl) <| steps_nil
 intro jh kC kX iC jz hH j4 gN
 obtain ⟨fs, ft⟩ := kt2 hH j2 j3
 have gW := Evo.step j1 m gN rfl
 refine rq_seq 99 jh (bz 2) [⟨[], [], [], Fct.map_ 386 16 vv28 vv4 ([] : List ((Int × Int × Int) × Bool))⟩, ⟨[0], [], [], Fct.rel [6, 16] (fun l => ∀ (E : Nat), l.getD 1 undef = .map (some E) → l.getD 0 undef = .map (some E))⟩] jz iC ?_ ?_
 ·refine sO (or_makeMap) ?_
  refine sc (fun own a wx hf ar V => ?_) ?_
  ·obtain ⟨⟨E, (da : a.eval (.tmp 16) = .map (some E)), c0⟩, -⟩ := hf
   exact px (or_mono (f := Fct.val 6 (.map (some E))) (or_assign da) (fun G a' w' v' hp h => fun _ H => by cases (da.symm.trans ((hp.2 16 (by decide)).symm.trans H)); exact h))
  exact steps_nil
 intro gn dm ju iD jA hI hj gO
 obtain ⟨fu, c2⟩ := kt2 hI fs ft
 obtain ⟨⟨E, (da : dm.eval (.tmp 16) = .map (some E)), (bB : MpO gn 386 ju E vv28 vv4 ([] : List ((Int × Int × Int) × Bool)))⟩, (kj : ∀ (E : Nat), dm.eval (.tmp 16) = .map (some E) → dm.eval (.tmp 6) = .map (some E)), -⟩ := hj [0, 1] rfl
 have fv := kj _ da
 have gX := Evo.step gW m gO rfl
 refine fl_seq (fun kn h6 e5 => ?_)
 refine rq_seq 99 gn [0, 1, 0] [dv [] [1] 17 (sl be l2 cR), dv [0] [] 18 (Zi (l2.length : Int)), dv [] [] 19 (Zi 0)] jA iD ?_ ?_
 ·exact sM c2 <| sF (fun f => or_len tu23 f.1 rfl) <| sO (or_move rfl) <| steps_nil
 intro ji kD kY iE jB hJ cT eL
 obtain ⟨fw, fx, fy⟩ := kt3 hJ fu c2 fv
 have dx := gv (cT [0] rfl) rfl
 have dy := gv (cT [1] rfl) rfl
 have dz := gv (cT [2] rfl) rfl
 have gY := Evo.step gX m eL rfl
 have bC := MpO.evo (by decide) eL bB
 refine fl_block (fun ko j8 iq e6 => ?_)
 refine fl_loop (body := (fun s => pack_packed_b1 q l2 s.1 s.2)) (z := r) (show loopO _ _ = _ from D) (fun (s : (List ((Int × Int × Int) × Bool)) × Int) a wx => match s with | (ae, a4) => ∃ (ox : Own), a.defers = [] ∧ a.tmps.size = 99 ∧ a.eval (.tmp 0) = sl o q p ∧ a.eval (.tmp 1) = sl be l2 cR ∧ a.eval (.tmp 6) = .map (some E) ∧ a.eval (.tmp 17) = sl be l2 cR ∧ a.eval (.tmp 18) = Zi (l2.length : Int) ∧ a.eval (.tmp 19) = Zi a4 ∧ Evo [] own ox w wx ∧ MpO ox 417 wx E vv28 vv4 ae) ?_ ?_
 ·exact ⟨(rl [(386, 417)] ji), iE, jB, fw, fx, fy, dx, dy, dz, (Evo.rl_ gY m rfl), (MpO.rl_ bC)⟩
 ·rintro ⟨ae, a4⟩ iv kE kZ ⟨jj, iF, jC, fz, fA, fB, dA, bf, bg, gP, bD⟩ D kp h7 cV fi
  have D : pack_packed_b1 q l2 ae a4 = some iv := D
  refine rq_seq 99 jj (bz 1) [dv [] [19, 18] 20 (.bool (decide (a4 < (l2.length : Int))))] jC iF ?_ ?_
  ·exact sS (fun s => or_lss (s.1.trans bg) (s.2.1.trans bf) rfl) <| steps_nil
  intro go kF k0 gg gE hK hl eM
  obtain ⟨c3, c4, fC, bh, dB, bi⟩ := kt6 hK fz fA fB dA bf bg
  have dC := gv (hl [0] rfl) rfl
  have bd := Evo.step gP m eM rfl
  have bE := MpO.evo (by decide) eM bD
  refine fl_seq (fun kq h8 ik => ?_)
  refine fl_cond dC D (fun ix D => ?_) (fun ix D => ?_)
  ·refine fl_skip ?_
   refine h8 _ _ ?_
   refine fl_seq (fun kr h9 e7 => ?_)
   refine fl_block (fun ks ia kg e8 => ?_)
   obtain ⟨d, cW, D⟩ := obind D
   refine rp_seq 99 go [455] [0, 1, 0, 7] [dv [] [17, 19] 21 (.pointer (some ((adr be).add ((a4 : Int).toNat * R30.s)))), ⟨[0], [], [], Fct.nest X30 [1] 22 (fun (y : (Unit × (Option Addr × Nat))) => .agg #[Zi d.1.1, Zi d.1.2.1, Zi d.1.2.2, .slice y.2.1 d.2.length y.2.2]) d⟩, ⟨[], [], [], Fct.blk 455 8 (fun g => pt g 0) 30 #[Zi 0, Zi 0, Zi 0, .slice none 0 0]⟩, ⟨[2, 1], [], [455], Fct.by_ [456] [8, 22] (fun l own w => ∃ ap : Nat, l.getD 0 undef = pt ap 0 ∧ (∀ (X : Option Addr) (I : Nat), l.getD 1 undef = .agg #[Zi d.1.1, Zi d.1.2.1, Zi d.1.2.2, sl X d.2 I] → BlkO own 456 w ap 30 #[Zi d.1.1, Zi d.1.2.1, Zi d.1.2.2, sl X d.2 I])) (fun hk he h => by obtain ⟨g, e, h⟩ := h; exact ⟨g, e, fun _ _ H => BlkO.evo (not_hit hk (by decide)) he (h _ _ H)⟩)⟩] gE gg ?_ ?_
   ·refine sS (fun s => or_index (R := R30) (l := l2) tl23 (s.1.trans bh) (s.2.1.trans bi) (RdO.some_ (RdO.evo rfl bd h5) cW) cW) <| sFE (fun f V => or_loadN X30 0 4 ta30 f.1 (Addr.add_zero' _).symm (RdO.evo rfl V (RdO.evo rfl bd h5)) cW (fun _ => rfl) (fun _ => rfl)) <| sO (nw0) ?_
    refine sc (fun own a wx hf ar V => ?_) ?_
    ·obtain ⟨⟨ap, i9, fp⟩, ⟨⟨_, ⟨X, I⟩⟩, (db : a.eval (.tmp 22) = .agg #[Zi d.1.1, Zi d.1.2.1, Zi d.1.2.2, sl X d.2 I]), ⟨-, jV⟩⟩, -⟩ := hf
     exact px (or_store (l := #[Zi d.1.1, Zi d.1.2.1, Zi d.1.2.2, sl X d.2 I]) (lab := 455) (lab2 := 456) ts30 i9 db fp (by simp) (by kernel_rfl) (mem_of rfl) (by decide) (by kernel_rfl) (fun G a' w' ha hb => ⟨_, (ha 8).trans i9, fun _ _ H => by cases (db.symm.trans ((ha 22).symm.trans H)); exact hb⟩))
    exact steps_nil
   intro fc dn gy iG jD hL hm eN
   obtain ⟨fD, fE, fF, dD, dE, dF⟩ := kt6 hL c3 c4 fC bh dB bi
   obtain ⟨⟨⟨_, ⟨X, I⟩⟩, (db : dn.eval (.tmp 22) = .agg #[Zi d.1.1, Zi d.1.2.1, Zi d.1.2.2, sl X d.2 I]), ⟨-, (bF : RdO fc [1] gy R5 X I d.2)⟩⟩, ⟨ap, (c5 : dn.eval (.tmp 8) = pt ap 0), (dt : ∀ (X : Option Addr) (I : Nat), dn.eval (.tmp 22) = .agg #[Zi d.1.1, Zi d.1.2.1, Zi d.1.2.2, sl X d.2 I] → BlkO fc 456 gy ap 30 #[Zi d.1.1, Zi d.1.2.1, Zi d.1.2.2, sl X d.2 I])⟩, -⟩ := hm [1, 3] rfl
   have aH := dt _ _ db
   have gZ := Evo.step bd m eN rfl
   have bG := MpO.evo (by decide) eN bE
   refine fl_seq (fun ku ib e9 => ?_)
   refine fl_block (fun kv ic kh fa => ?_)
   obtain ⟨dj, io, D⟩ := obind D
   refine rq_seq 99 fc (bz 5) [dv [] [8] 24 (pt ap 0), dv [0] [] 25 (.agg #[Zi d.1.1, Zi d.1.2.1, Zi d.1.2.2]), dv [1] [] 26 (.bool dj), dv [2] [] 27 (.bool (!dj)), dv [3] [] 23 (.bool (!dj))] jD iG ?_ ?_
   ·exact sS (fun s => or_field fo30_0 (s.1.trans c5) (by rfl)) <| sFE (fun f V => ldS ta28 f.1 (be_ V aH)) <| sF (fun f => or_call cf45 (args1 f.1) (window_Right_w _ d.1  dj io) post_val) <| sF (fun f => or_not f.1 rfl) <| sA <| steps_nil
   intro gp kG k1 gh gF hM hn a8
   obtain ⟨fG, fH, c6, c7, dG, dH, dI⟩ := kt7 hM fD fE fF c5 dD dE dF
   have dJ := gv (hn [4] rfl) rfl
   have eR := Evo.step gZ m a8 rfl
   have aJ := be_ a8 aH
   have aI := MpO.evo (by decide) a8 bG
   have bH := RdO.evo rfl a8 bF
   refine fl_cond dJ D (fun iy D => ?_) (fun iy D => ?_)
   ·refine rq_seq 99 gp (bz 2) [dv [] [] 4 (.pointer none), dv [] [] 5 (Zi 5)] gF gh ?_ ?_
    ·exact sO (or_assign rfl) <| sO (or_assign rfl) <| steps_nil
    intro jk kH k2 iH le j5 eZ gQ
    have fI := gv (eZ [0] rfl) rfl
    have fJ := gv (eZ [1] rfl) rfl
    have g0 := Evo.step eR m gQ rfl
    refine fl_ret ?_
    refine fa _ _ _ rfl ?_
    refine e9 _ _ _ rfl ?_
    refine e8 _ _ _ rfl ?_
    refine e7 _ _ _ rfl ?_
    replace D := fi _ D
    refine cV _ _ _ rfl ?_
    refine e6 _ _ _ rfl ?_
    refine e5 _ _ _ rfl ?_
    obtain rfl := osome D
    exact fb _ _ _ _ (.inl rfl) iH (results2_ rfl (RVal.tmp_ fI) (RVal.tmp_ fJ)) ⟨jk, rfl, g0⟩
   refine rq_seq 99 gp [0, 0, 2, 7, 15] [dv [] [6] 29 (.map (some E)), dv [] [8] 30 (pt ap 0), dv [1] [] 31 (.agg #[Zi d.1.1, Zi d.1.2.1, Zi d.1.2.2]), dv [0, 2] [] 32 (.bool ((lkM ae d.1).getD false)), dv [3] [] 28 (.bool ((lkM ae d.1).getD false))] gF gh ?_ ?_
   ·exact sM c6 <| sS (fun s => or_field fo30_0 (s.1.trans c7) (by rfl)) <| sFE (fun f V => ldS ta28 f.1 (be_ V aJ)) <| sFE (fun f V => or_lookupE (kf := vv28) (vf := vv4) (k := d.1) (dv := false) ko28 tm98 tzv98 f.1 f.2.1 (MpO.evo (by decide) V aI) rfl) <| sA <| steps_nil
   intro gq kI k3 gi gG hN hq a9
   obtain ⟨fK, fL, c8, fM, dK, dL, dM⟩ := kt7 hN fG fH c6 c7 dG dH dI
   have dN := gv (hq [4] rfl) rfl
   have eS := Evo.step eR m a9 rfl
   have bJ := be_ a9 aJ
   have bI := MpO.evo (by decide) a9 aI
   have gJ := RdO.evo rfl a9 bH
   refine fl_cond dN D (fun iz D => ?_) (fun iz D => ?_)
   ·refine rq_seq 99 gq (bz 2) [dv [] [] 4 (.pointer none), dv [] [] 5 (Zi 8)] gG gi ?_ ?_
    ·exact sO (or_assign rfl) <| sO (or_assign rfl) <| steps_nil
    intro jl kJ k4 iI lf j6 e0 gR
    have fN := gv (e0 [0] rfl) rfl
    have fO := gv (e0 [1] rfl) rfl
    have g1 := Evo.step eS m gR rfl
    refine fl_ret ?_
    refine fa _ _ _ rfl ?_
    refine e9 _ _ _ rfl ?_
    refine e8 _ _ _ rfl ?_
    refine e7 _ _ _ rfl ?_
    replace D := fi _ D
    refine cV _ _ _ rfl ?_
    refine e6 _ _ _ rfl ?_
    refine e5 _ _ _ rfl ?_
    obtain rfl := osome D
    exact fb _ _ _ _ (.inl rfl) iI (results2_ rfl (RVal.tmp_ fN) (RVal.tmp_ fO)) ⟨jl, rfl, g1⟩
   refine fl_skip ?_
   refine ic _ _ ?_
   refine ib _ _ ?_
   obtain ⟨gb, gL, D⟩ := obind D
   refine rr 99 [Fct.mapAt 417 E vv28 vv4 ae] gq [417] [0, 0, 2, 7] [dv [] [6] 33 (.map (some E)), dv [] [8] 34 (pt ap 0), dv [1] [] 35 (.agg #[Zi d.1.1, Zi d.1.2.1, Zi d.1.2.2]), ⟨[0, 2, 4], [], [417], Fct.mapAt 468 E vv28 vv4 gb⟩] gG gi (fm1 bI) ?_ ?_
   ·refine sM c8 <| sS (fun s => or_field fo30_0 (s.1.trans fM) (by rfl)) <| sFE (fun f V => ldS ta28 f.1 (be_ V bJ)) ?_
    refine sc (fun own a wx hf ar V => ?_) ?_
    ·obtain ⟨i0, i1, c0, -⟩ := hf
     exact px (or_mapUpdate (kf := vv28) (vf := vv4) (k := d.1) (v := true) (lab := 417) (lab2 := 468) ko28 tm98 i0 i1 rfl c0 (osome gL).symm (mem_of rfl) (by decide) (fun G a' w' hb => hb))
    exact steps_nil
   intro gr kK jv iJ jE hO hr gS
   obtain ⟨fP, fQ, fR, dO, dP, dQ⟩ := kt6 hO fK fL c8 dK dL dM
   obtain ⟨(bK : MpO gr 468 jv E vv28 vv4 gb), -⟩ := hr [3] rfl
   have g2 := Evo.step eS m gS rfl
   refine ia _ _ ?_
   refine h9 _ _ ?_
   refine rq 99 gr (bz 2) [dv [] [19] 36 (Zi (ad a4 1)), dv [0] [] 19 (Zi (ad a4 1))] jE iJ ?_ ?_
   ·exact sS (fun s => or_add (s.1.trans dQ) rfl rfl) <| sV <| steps_nil
   intro jm kL k5 iK jF hP ht eO
   obtain ⟨fS, fT, fU, dR, dS⟩ := kt5 hP fP fQ fR dO dP
   have dT := gv (ht [1] rfl) rfl
   have g3 := Evo.step g2 m eO rfl
   have bL := MpO.evo (by decide) eO bK
   exact h7 _ _ _ D ⟨(rl [(468, 417)] jm), iK, jF, fS, fT, fU, dR, dS, dT, (Evo.rl_ g3 m rfl), (MpO.rl_ bL)⟩
  refine fl_exit ?_
  refine ik _ _ _ rfl ?_
  replace D := fi _ D
  refine cV _ _ _ rfl ?_
  refine iq _ _ ?_
  refine h6 _ _ ?_
  refine rq_seq 99 go (bz 4) [dv [] [0] 37 (sl o q p), dv [0] [] 38 (.agg #[sl o q p, .slice none 0 0, .slice none 0 0]), ⟨[1], [], [], Fct.blk 472 39 (fun g => pt g 0) 64 #[sl o q p, .slice none 0 0, .slice none 0 0]⟩, ⟨[2], [], [], Fct.rel [9, 39] (fun l => ∀ (j : Nat), l.getD 1 undef = pt j 0 → l.getD 0 undef = pt j 0)⟩] gE gg ?_ ?_
  ·refine sM c3 <| sF (fun f => ok1 f.1) <| sF (fun f => nw1 f.1) ?_
   refine sc (fun own a wx hf ar V => ?_) ?_
   ·obtain ⟨⟨j, (dc : a.eval (.tmp 39) = pt j 0), P⟩, -⟩ := hf
    exact px (or_mono (f := Fct.val 9 (pt j 0)) (or_assign dc) (fun G a' w' v' hp h => fun _ H => by cases (dc.symm.trans ((hp.2 39 (by decide)).symm.trans H)); exact h))
   exact steps_nil
  intro gs dp jw iL jG hQ hu gT
  have fV := kt hQ c4
  obtain ⟨⟨j, (dc : dp.eval (.tmp 39) = pt j 0), (bM : BlkO gs 472 jw j 64 #[sl o q p, .slice none 0 0, .slice none 0 0])⟩, (kk : ∀ (j : Nat), dp.eval (.tmp 39) = pt j 0 → dp.eval (.tmp 9) = pt j 0), -⟩ := hu [2, 3] rfl
  have fW := kk _ dc
  have eT := Evo.step bd m gT rfl
  obtain ⟨U, ip, D⟩ := obind D
  refine rp_seq 99 gs [480] [0, 1, 0, 7] [dv [] [1] 40 (sl be l2 cR), ⟨[0], [], [], Fct.mems [476, 477, 478, 1] 41 (fun (x : Option Addr × Nat) => .slice x.1 U.length x.2) (fun (x : Option Addr × Nat) own w => RwO own 476 [477, 478, 1] w 30 R30 x.1 x.2 U) (fun hk he h => RwO.evo (hits_sub hk (by decide)) he h)⟩, ⟨[], [], [], Fct.blk 480 10 (fun g => pt g 0) 23 #[.slice none 0 0]⟩, ⟨[2, 1], [], [480], Fct.by_ [481] [10, 41] (fun l own w => ∃ aC : Nat, l.getD 0 undef = pt aC 0 ∧ (∀ (A : Option Addr) (t : Nat), l.getD 1 undef = sl A U t → BlkO own 481 w aC 23 #[sl A U t])) (fun hk he h => by obtain ⟨g, e, h⟩ := h; exact ⟨g, e, fun _ _ H => BlkO.evo (not_hit hk (by decide)) he (h _ _ H)⟩)⟩] jG iL ?_ ?_
  ·refine sM fV ?_
   refine sc (fun own _ _ f _ V => px (or_call cf46 (args1 f.1) (slices_Clone_pack_Entry_pack_Entry_w _ (forth own (inL [1])) l2 be cR inL_le (RdO.alias_ (La := [1]) (RdO.evo rfl V (RdO.evo rfl eT h5)) (by decide)) U ip) (post_alias (La := [1]) (m' := (look0 [(1, 477), (2, 476), (3, 478)])) (fun G w' a' x ho lj h1 h => ⟨x, h1, RwO.backM_ ho h (by decide) (by decide) (by decide) (by decide)⟩)))) ?_
   refine sO (nw0) ?_
   refine sc (fun own a wx hf ar V => ?_) ?_
   ·obtain ⟨⟨aC, gl, fq⟩, ⟨⟨A, t⟩, (dd : a.eval (.tmp 41) = sl A U t), cZ⟩, -⟩ := hf
    exact px (or_store1 (lab := 480) (lab2 := 481) ts23 gl dd fq (by simp) rfl (mem_of rfl) (by decide) rfl (fun G a' w' ha hb => ⟨_, (ha 10).trans gl, fun _ _ H => by cases (dd.symm.trans ((ha 41).symm.trans H)); exact hb⟩))
   exact steps_nil
  intro fd dq gz iM jH hR hv eP
  have fX := kt hR fW
  obtain ⟨⟨⟨A, t⟩, (dd : dq.eval (.tmp 41) = sl A U t), (bN : RwO fd 476 [477, 478, 1] gz 30 R30 A t U)⟩, ⟨aC, (a2 : dq.eval (.tmp 10) = pt aC 0), (du : ∀ (A : Option Addr) (t : Nat), dq.eval (.tmp 41) = sl A U t → BlkO fd 481 gz aC 23 #[sl A U t])⟩, -⟩ := hv [1, 3] rfl
  have aj := du _ _ dd
  have g4 := Evo.step eT m eP rfl
  have bO := be_ eP bM
  obtain ⟨M, e4, D⟩ := obind D
  refine rr_seq 99 [Fct.rowAt 476 [477, 478, 1] 30 R30 A t U] fd [476] [0, 1, 0, 7] [dv [] [10] 42 (sl A U t), dv [0] [] 43 (.iface 23 (sl A U t)), dv [] [10] 44 (.func (.func 48) #[] #[pt aC 0]), ⟨[1, 2, 4], [], [476], Fct.rowAt 484 [477, 478, 1] 30 R30 A t M⟩] jH iM (fm1 bN) ?_ ?_
  ·refine sL1 to23 a2 aj <| sF (fun f => ok1 f.1) <| sS (fun s => ok1 (s.1.trans a2)) ?_
   refine sc (fun own a wx hf ar V => ?_) ?_
   ·obtain ⟨i2, i3, cZ, -⟩ := hf
    exact px (or_sortS (lab := 476) cf47 (args2 i2 i3) (mem_of rfl) (sortAll23_48_w cZ (be_ V aj) (by decide) (by decide) (by decide) e4))
   exact steps_nil
  intro fe kM gA iN jI hS hw eQ
  obtain ⟨fY, dU⟩ := kt2 hS fX a2
  obtain ⟨(bP : RwO fe 484 [477, 478, 1] gA 30 R30 A t M), -⟩ := hw [3] rfl
  have g5 := Evo.step g4 m eQ rfl
  obtain ⟨bQ, bR⟩ := be2 eQ bO aj
  have cY : BlkO fe 481 gA aC 23 #[sl A M t] := BlkO.cs_ bR (by (try unfold sl); rw [(sortAll23_48_len e4)])
  refine rq_seq 99 fe (bz 2) [⟨[], [], [], Fct.map_ 488 46 vv9 vv3 ([] : List (ByteArray × Int))⟩, ⟨[0], [], [], Fct.rel [11, 46] (fun l => ∀ (B : Nat), l.getD 1 undef = .map (some B) → l.getD 0 undef = .map (some B))⟩] jI iN ?_ ?_
  ·refine sO (or_makeMap) ?_
   refine sc (fun own a wx hf ar V => ?_) ?_
   ·obtain ⟨⟨B, (de : a.eval (.tmp 46) = .map (some B)), c1⟩, -⟩ := hf
    exact px (or_mono (f := Fct.val 11 (.map (some B))) (or_assign de) (fun G a' w' v' hp h => fun _ H => by cases (de.symm.trans ((hp.2 46 (by decide)).symm.trans H)); exact h))
   exact steps_nil
  intro gt dr jx iO jJ hT hx cS
  obtain ⟨fZ, dV⟩ := kt2 hT fY dU
  obtain ⟨⟨B, (de : dr.eval (.tmp 46) = .map (some B)), (bV : MpO gt 488 jx B vv9 vv3 ([] : List (ByteArray × Int)))⟩, (jt : ∀ (B : Nat), dr.eval (.tmp 46) = .map (some B) → dr.eval (.tmp 11) = .map (some B)), -⟩ := hx [0, 1] rfl
  have dW := jt _ de
  have g6 := Evo.step g5 m cS rfl
  obtain ⟨bT, bU⟩ := be2 cS bQ cY
  have bS := re_ cS bP
  refine fl_seq (fun kw id ka => ?_)
  refine rq_seq 99 gt [0, 1, 0] [dv [] [10] 47 (sl A M t), dv [0] [] 48 (Zi (M.length : Int)), dv [] [] 49 (Zi 0)] jJ iO ?_ ?_
  ·exact sL1 to23 dV bU <| sF (fun f => or_len tu23 f.1 rfl) <| sO (or_move rfl) <| steps_nil
  intro jn kN k6 iP jK hU cU ba
  obtain ⟨f0, dX⟩ := kt2 hU fZ dW
  have dY := gv (cU [0] rfl) rfl
  have dZ := gv (cU [1] rfl) rfl
  have d1 := gv (cU [2] rfl) rfl
  have g7 := Evo.step g6 m ba rfl
  have bX := be_ ba bT
  have bW := re_ ba bS
  have bY := MpO.evo (by decide) ba bV
  refine fl_block (fun kx j9 ir kb => ?_)
  refine fl_loop (body := (fun s => pack_packed_b2 q M s.1 s.2.1 s.2.2.1 s.2.2.2)) (z := r) (show loopO _ _ = _ from D) (fun (s : (List (List Int)) × (List ((Int × Int × Int) × Int)) × (List (ByteArray × Int)) × Int) a wx => match s with | (T, N, i, au) => ∃ (ox : Own) (af : Option Addr) (ag : Nat) (O : Option Addr) (S : Nat), a.defers = [] ∧ a.tmps.size = 99 ∧ a.eval (.tmp 9) = pt j 0 ∧ a.eval (.tmp 11) = .map (some B) ∧ a.eval (.tmp 47) = sl A M t ∧ a.eval (.tmp 48) = Zi (M.length : Int) ∧ a.eval (.tmp 49) = Zi au ∧ Evo [] own ox w wx ∧ BlkO ox 577 wx j 64 #[sl o q p, sl af T ag, sl O N S] ∧ RwO ox 581 [1, 582] wx 22 R22 af ag T ∧ RwO ox 586 [] wx 66 R66 O S N ∧ MpO ox 587 wx B vv9 vv3 i ∧ RwO ox 582 [1, 582] wx 30 R30 A t M) ?_ ?_
  ·exact ⟨(rl [(472, 577), (477, 582), (478, 582), (484, 582), (488, 587)] jn), none, 0, none, 0, iP, jK, f0, dX, dY, dZ, d1, (Evo.rl_ g7 m rfl), (BlkO.rl_ bX), RwO.nil_, RwO.nil_, (MpO.rl_ bY), (RwO.more (RwO.rl_ bW) (by decide))⟩
  ·rintro ⟨T, N, i, au⟩ fj kO k7 ⟨jo, af, ag, O, S, iQ, jM, f1, d2, d3, bj, bk, gU, b2, b0, b1, b3, bZ⟩ D ky ie il jL
   have D : pack_packed_b2 q M T N i au = some fj := D
   refine rq_seq 99 jo (bz 1) [dv [] [49, 48] 50 (.bool (decide (au < (M.length : Int))))] jM iQ ?_ ?_
   ·exact sS (fun s => or_lss (s.1.trans bk) (s.2.1.trans bj) rfl) <| steps_nil
   intro gu kP k8 gj gH hV hy av
   obtain ⟨c9, d4, bl, d5, bm⟩ := kt5 hV f1 d2 d3 bj bk
   have d6 := gv (hy [0] rfl) rfl
   have eU := Evo.step gU m av rfl
   have aM := be_ av b2
   have aK := re_ av b0
   have aL := re_ av b1
   have b4 := MpO.evo (by decide) av b3
   have ak := re_ av bZ
   refine fl_seq (fun kz ig im => ?_)
   refine fl_cond d6 D (fun iA D => ?_) (fun iA D => ?_)
   ·refine fl_skip ?_
    refine ig _ _ ?_
    refine fl_seq (fun kA ih kc => ?_)
    refine fl_block (fun kB ii ki kd => ?_)
    obtain ⟨c, cX, D⟩ := obind D
    refine rp_seq 99 gu [683] [0, 1, 0, 7] [dv [] [47, 49] 51 (.pointer (some ((adr A).add ((au : Int).toNat * R30.s)))), ⟨[0], [], [], Fct.nest X30 [582, 1, 582] 52 (fun (y : (Unit × (Option Addr × Nat))) => .agg #[Zi c.1.1, Zi c.1.2.1, Zi c.1.2.2, .slice y.2.1 c.2.length y.2.2]) c⟩, ⟨[], [], [], Fct.blk 683 13 (fun g => pt g 0) 30 #[Zi 0, Zi 0, Zi 0, .slice none 0 0]⟩, ⟨[2, 1], [], [683], Fct.by_ [684] [13, 52] (fun l own w => ∃ W : Nat, l.getD 0 undef = pt W 0 ∧ (∀ (C : Option Addr) (u : Nat), l.getD 1 undef = .agg #[Zi c.1.1, Zi c.1.2.1, Zi c.1.2.2, sl C c.2 u] → BlkO own 684 w W 30 #[Zi c.1.1, Zi c.1.2.1, Zi c.1.2.2, sl C c.2 u])) (fun hk he h => by obtain ⟨g, e, h⟩ := h; exact ⟨g, e, fun _ _ H => BlkO.evo (not_hit hk (by decide)) he (h _ _ H)⟩)⟩] gH gj ?_ ?_
    ·refine sS (fun s => or_index (R := R30) (l := M) tl23 (s.1.trans bl) (s.2.1.trans bm) (RdO.some_ (RwO.rd ak) cX) cX) <| sFE (fun f V => or_loadN X30 0 4 ta30 f.1 (Addr.add_zero' _).symm (RwO.rd (re_ V ak)) cX (fun _ => rfl) (fun _ => rfl)) <| sO (nw0) ?_
     refine sc (fun own a wx hf ar V => ?_) ?_
     ·obtain ⟨⟨W, gm, fr⟩, ⟨⟨_, ⟨C, u⟩⟩, (df : a.eval (.tmp 52) = .agg #[Zi c.1.1, Zi c.1.2.1, Zi c.1.2.2, sl C c.2 u]), ⟨-, jW⟩⟩, -⟩ := hf
      exact px (or_store (l := #[Zi c.1.1, Zi c.1.2.1, Zi c.1.2.2, sl C c.2 u]) (lab := 683) (lab2 := 684) ts30 gm df fr (by simp) (by kernel_rfl) (mem_of rfl) (by decide) (by kernel_rfl) (fun G a' w' ha hb => ⟨_, (ha 13).trans gm, fun _ _ H => by cases (df.symm.trans ((ha 52).symm.trans H)); exact hb⟩))
     exact steps_nil
    intro ff ds gB iR jN hW hz aw
    obtain ⟨f2, bn, d7, d8, d9⟩ := kt5 hW c9 d4 bl d5 bm
    obtain ⟨⟨⟨_, ⟨C, u⟩⟩, (df : ds.eval (.tmp 52) = .agg #[Zi c.1.1, Zi c.1.2.1, Zi c.1.2.2, sl C c.2 u]), ⟨-, (aN : RdO ff [582, 1, 582] gB R5 C u c.2)⟩⟩, ⟨W, (bo : ds.eval (.tmp 13) = pt W 0), (dw : ∀ (C : Option Addr) (u : Nat), ds.eval (.tmp 52) = .agg #[Zi c.1.1, Zi c.1.2.1, Zi c.1.2.2, sl C c.2 u] → BlkO ff 684 gB W 30 #[Zi c.1.1, Zi c.1.2.1, Zi c.1.2.2, sl C c.2 u])⟩, -⟩ := hz [1, 3] rfl
    have aP := dw _ _ df
    have g8 := Evo.step eU m aw rfl
    have b8 := be_ aw aM
    have b6 := re_ aw aK
    have b7 := re_ aw aL
    have aO := MpO.evo (by decide) aw b4
    have b5 := re_ aw ak
    refine rq_seq 99 ff [0, 0, 2, 6, 15, 31, 63, 63, 127, 511] [dv [] [11] 54 (.map (some B)), dv [] [13] 55 (pt W 3), dv [1] [] 56 (sl C c.2 u), dv [2] [] 57 (.string (bsS c.2)), dv [0, 3] [] 58 (.tuple #[Zi ((lkM i (bsS c.2)).getD 0), .bool ((lkM i (bsS c.2)).isSome)]), dv [4] [] 53 (.tuple #[Zi ((lkM i (bsS c.2)).getD 0), .bool ((lkM i (bsS c.2)).isSome)]), dv [5] [] 59 (Zi ((lkM i (bsS c.2)).getD 0)), dv [5] [] 60 (.bool ((lkM i (bsS c.2)).isSome)), dv [6] [] 14 (Zi ((lkM i (bsS c.2)).getD 0)), dv [7] [] 15 (.bool ((lkM i (bsS c.2)).isSome))] jN iR ?_ ?_
    ·exact sM bn <| sS (fun s => or_field fo30_1 (s.1.trans bo) (by rfl)) <| sG to22 aP <| sFE (fun f V => or_convBS tu22 tn5 tS9 f.1 (RdO.evo rfl V aN)) <| sFE (fun f V => or_lookup2 (kf := vv9) (vf := vv3) (k := (bsS c.2)) (dv := 0) ko9 tm101 tzv101 f.1 f.2.1 (MpO.evo (by decide) V aO) rfl rfl) <| sV <| sF (fun f => ok1 f.1) <| sF (fun f => ok1 f.1) <| sA <| sA <| steps_nil
    intro jp kQ k9 iS jO hX e1 am
    obtain ⟨f3, ea, eb, ee, ef, eg⟩ := kt6 hX f2 bn bo d7 d8 d9
    have ec := gv (e1 [8] rfl) rfl
    have ed := gv (e1 [9] rfl) rfl
    have g9 := Evo.step g8 m am rfl
    obtain ⟨cd, cf⟩ := be2 am b8 aP
    have ca := re_ am b6
    have cb := re_ am b7
    have ce := MpO.evo (by decide) am aO
    have b9 := re_ am b5
    have cc := RdO.evo rfl am aN
    refine fl_seq (fun iw ij ke => ?_)
    have gd : ∀ (aa : Act) (ai : World) (ah : Own) (aD : List (List Int)) (ab : List (ByteArray × Int)) (a3 : Int) (aA : Option Addr) (aB : Nat), aa.defers = [] → aa.tmps.size = 99 → aa.eval (.tmp 9) = pt j 0 → aa.eval (.tmp 11) = .map (some B) → aa.eval (.tmp 13) = pt W 0 → aa.eval (.tmp 14) = Zi a3 → aa.eval (.tmp 47) = sl A M t → aa.eval (.tmp 48) = Zi (M.length : Int) → aa.eval (.tmp 49) = Zi au → Evo [] own ah w ai → BlkO ah 708 ai j 64 #[sl o q p, sl aA aD aB, sl O N S] → RwO ah 712 [1, 713] ai 22 R22 aA aB aD → RwO ah 586 [] ai 66 R66 O S N → MpO ah 714 ai B vv9 vv3 ab → BlkO ah 684 ai W 30 #[Zi c.1.1, Zi c.1.2.1, Zi c.1.2.2, sl C c.2 u] → RdO ah [1, 713] ai R5 C u c.2 → RwO ah 713 [1, 713] ai 30 R30 A t M → pack_packed_k3 N au c aD ab a3 = some fj → iw .normal aa ai := by
     intro aa ai ah aD ab a3 aA aB iT jP a5 eh ei ej ek el em gV cj ci ch ck cl gK cg D
     refine ij _ _ ?_
     obtain ⟨aF, it, D⟩ := obind D
     refine rd_ g_mixed 99 [Fct.rowAt 586 [] 66 R66 O S N, Fct.at_ 708 j 64 #[sl o q p, sl aA aD aB, sl O N S]] ah [586, 708] [0, 0, 2, 6, 14, 0, 32, 0, 224, 480, 1022, 2047, 4095, 8191] [dv [] [9] 84 (pt j 0), dv [] [9] 85 (pt j 0), dv [1] [] 86 (pt j 0), dv [2] [] 87 (pt j 2), dv [3, 15] [] 88 (sl O N S), dv [] [13] 89 (pt W 0), dv [5] [] 90 (.agg #[Zi c.1.1, Zi c.1.2.1, Zi c.1.2.2]), dv [] [14] 91 (Zi a3), dv [6, 7] [] 92 (.agg #[Zi c.1.1, Zi c.1.2.1, Zi c.1.2.2, Zi a3]), ⟨[8], [], [], Fct.row 728 [] 93 66 R66 [(c.1, a3)]⟩, ⟨[4, 9, 14], [], [586], Fct.row 730 [] 94 66 R66 aF⟩, dv [0] [] 95 (pt j 0), dv [11] [] 96 (pt j 2), ⟨[12, 10, 15], [], [708], Fct.by_ [732] [94] (fun l own w => ∀ (Y : Option Addr) (J : Nat), l.getD 0 undef = sl Y aF J → BlkO own 732 w j 64 #[sl o q p, sl aA aD aB, sl Y aF J]) (fun hk he h _ _ H => BlkO.evo (not_hit hk (by decide)) he (h _ _ H))⟩] jP iT (fm2 ch cj) ?_ ?_
     ·refine sM a5 <| sM a5 <| sF (fun f => ok1 f.1) <| sF (fun f => or_field fo64_2 f.1 (by rfl)) ?_
      refine sc (fun own a wx hf ar V => ?_) ?_
      ·obtain ⟨jc, (P : BlkO own 708 wx j 64 #[sl o q p, sl aA aD aB, sl O N S]), -⟩ := hf
       exact px (ld1 to62 jc P)
      refine sS (fun s => or_field fo30_0 (s.1.trans ei) (by rfl)) <| sFE (fun f V => ldS ta28 f.1 (be_ V cl)) <| sM ej <| sF (fun f => ok2 f.1 f.2.1) <| sF (fun f => or_lit (lab := 728) (e := 66) (cs := #[Zi c.1.1, Zi c.1.2.1, Zi c.1.2.2, Zi a3]) (F := E66) (nw1 f.1) rfl rfl (show 1 ≤ maxLen by decide)) ?_
      refine sc (fun own a wx hf ar V => ?_) ?_
      ·obtain ⟨jd, ⟨⟨kl, jZ⟩, je, fn⟩, fm, -⟩ := hf
       exact px (or_append (R := R66) (lab := 586) (lab2 := 730) (L := []) (L3 := []) tp62 jd fm (by decide) je (RwO.rd fn) it (by decide) (by decide) (mem_of rfl) (.inl (Rep.fl_flat _)))
      refine sF (fun f => ok1 f.1) <| sF (fun f => or_field fo64_2 f.1 (by rfl)) ?_
      refine sc (fun own a wx hf ar V => ?_) ?_
      ·obtain ⟨jf, ⟨⟨Y, J⟩, (dh : a.eval (.tmp 94) = sl Y aF J), jX⟩, P, -⟩ := hf
       exact px (or_store1 (lab := 708) (lab2 := 732) ts62 jf dh P (by simp) rfl (mem_of rfl) (by decide) rfl (fun G a' w' ha hb => fun _ _ H => by cases (dh.symm.trans ((ha 94).symm.trans H)); exact hb))
      exact steps_nil
     intro fg ge gC iU jQ hY hA bb
     obtain ⟨f4, en, eo, ep, eq⟩ := kt5 hY a5 eh ek el em
     obtain ⟨⟨⟨Y, J⟩, (dh : ge.eval (.tmp 94) = sl Y aF J), (co : RwO fg 730 [] gC 66 R66 Y J aF)⟩, (a1 : ∀ (Y : Option Addr) (J : Nat), ge.eval (.tmp 94) = sl Y aF J → BlkO fg 732 gC j 64 #[sl o q p, sl aA aD aB, sl Y aF J]), -⟩ := hA [10, 13] rfl
     have cp := a1 _ _ dh
     have hc := Evo.step gV m bb rfl
     have cn := re_ bb ci
     have cq := MpO.evo (by decide) bb ck
     have cm := re_ bb cg
     refine ii _ _ ?_
     refine ih _ _ ?_
     refine rq 99 fg (bz 2) [dv [] [49] 97 (Zi (ad au 1)), dv [0] [] 49 (Zi (ad au 1))] jQ iU ?_ ?_
     ·exact sS (fun s => or_add (s.1.trans eq) rfl rfl) <| sV <| steps_nil
     intro jq kR la iV jR hZ hB ax
     obtain ⟨f5, er, es, et⟩ := kt4 hZ f4 en eo ep
     have eu := gv (hB [1] rfl) rfl
     have hd := Evo.step hc m ax rfl
     have cv := be_ ax cp
     have ct := re_ ax cn
     have cw := MpO.evo (by decide) ax cq
     have cr := re_ ax cm
     have cu := re_ ax co
     exact ie _ _ _ D ⟨(rl [(712, 581), (713, 582), (714, 587), (730, 586), (732, 577)] jq), aA, aB, Y, J, iV, jR, f5, er, es, et, eu, (Evo.rl_ hd m rfl), (BlkO.rl_ cv), (RwO.rl_ ct), (RwO.rl_ cu), (MpO.rl_ cw), (RwO.rl_ cr)⟩
    refine rq_seq 99 jp (bz 2) [dv [] [15] 61 (.bool ((lkM i (bsS c.2)).isSome)), dv [0] [] 62 (.bool (!((lkM i (bsS c.2)).isSome)))] jO iS ?_ ?_
    ·exact sM ed <| sF (fun f => or_not f.1 rfl) <| steps_nil
    intro gw kS lb gk gI h0 hC an
    obtain ⟨a6, bp, bq, ev, br, bs, bt⟩ := kt7 h0 f3 ea eb ec ee ef eg
    have ew := gv (hC [1] rfl) rfl
    have eV := Evo.step g9 m an rfl
    obtain ⟨al, aV⟩ := be2 an cd cf
    have aR := re_ an ca
    have aS := re_ an cb
    have aU := MpO.evo (by decide) an ce
    have aQ := re_ an b9
    have aT := RdO.evo rfl an cc
    refine fl_cond ew D (fun iB D => ?_) (fun iB D => ?_)
    ·refine rq_seq 99 gw (bz 6) [dv [] [9] 63 (pt j 0), dv [0] [] 64 (pt j 0), dv [1] [] 65 (pt j 1), dv [2] [] 66 (sl af T ag), dv [3] [] 67 (Zi (T.length : Int)), dv [4] [] 14 (Zi (T.length : Int))] gI gk ?_ ?_
     ·exact sM a6 <| sF (fun f => ok1 f.1) <| sF (fun f => or_field fo64_1 f.1 (by rfl)) <| sG to61 al <| sF (fun f => or_len tu61 f.1 rfl) <| sA <| steps_nil
     intro jr kT lc iW jS h2 hD ao
     obtain ⟨f6, bu, bv, ex, ey, ez⟩ := kt6 h2 a6 bp bq br bs bt
     have bw := gv (hD [5] rfl) rfl
     have hg := Evo.step eV m ao rfl
     obtain ⟨cA, aX⟩ := be2 ao al aV
     have cy := re_ ao aR
     have cz := re_ ao aS
     have cB := MpO.evo (by decide) ao aU
     have cx := re_ ao aQ
     have aW := RdO.evo rfl ao aT
     obtain ⟨gc, gM, D⟩ := obind D
     refine rr_seq 99 [Fct.mapAt 587 B vv9 vv3 i] jr [587] [0, 0, 2, 6, 0, 31] [dv [] [11] 68 (.map (some B)), dv [] [13] 69 (pt W 3), dv [1] [] 70 (sl C c.2 u), dv [2] [] 71 (.string (bsS c.2)), dv [] [14] 72 (Zi (T.length : Int)), ⟨[0, 3, 4, 6], [], [587], Fct.mapAt 739 B vv9 vv3 gc⟩] jS iW (fm1 cB) ?_ ?_
     ·refine sM bu <| sS (fun s => or_field fo30_1 (s.1.trans bv) (by rfl)) <| sG to22 aX <| sFE (fun f V => or_convBS tu22 tn5 tS9 f.1 (RdO.evo rfl V aW)) <| sM bw ?_
      refine sc (fun own a wx hf ar V => ?_) ?_
      ·obtain ⟨i4, i5, i6, c1, -⟩ := hf
       exact px (or_mapUpdate (kf := vv9) (vf := vv3) (k := (bsS c.2)) (v := (T.length : Int)) (lab := 587) (lab2 := 739) ko9 tm101 i4 i5 i6 c1 (osome gM).symm (mem_of rfl) (by decide) (fun G a' w' hb => hb))
      exact steps_nil
     intro gx kU jy iX jT h3 hF ay
     obtain ⟨a7, eA, bx, eB, eC, eD, eE⟩ := kt7 h3 f6 bu bv bw ex ey ez
     obtain ⟨(cG : MpO gx 739 jy B vv9 vv3 gc), -⟩ := hF [5] rfl
     have hh := Evo.step hg m ay rfl
     obtain ⟨cF, aZ⟩ := be2 ay cA aX
     have cD := re_ ay cy
     have cE := re_ ay cz
     have cC := re_ ay cx
     have aY := RdO.evo rfl ay aW
     obtain ⟨aG, iu, D⟩ := obind D
     refine rd_ g_mixed 99 [Fct.rowAt 581 [1, 582] 22 R22 af ag T, Fct.at_ 577 j 64 #[sl o q p, sl af T ag, sl O N S]] gx [581, 577] [0, 0, 2, 6, 14, 0, 32, 96, 254, 511, 1023, 2047] [dv [] [9] 73 (pt j 0), dv [] [9] 74 (pt j 0), dv [1] [] 75 (pt j 0), dv [2] [] 76 (pt j 1), dv [3, 13] [] 77 (sl af T ag), dv [] [13] 78 (pt W 3), dv [5] [] 79 (sl C c.2 u), ⟨[6], [], [], Fct.row 749 [1, 582] 80 22 R22 [c.2]⟩, ⟨[4, 7, 12], [], [581], Fct.row 751 [1, 582, 749] 81 22 R22 aG⟩, dv [0] [] 82 (pt j 0), dv [9] [] 83 (pt j 1), ⟨[10, 8, 13], [], [577], Fct.by_ [753] [81] (fun l own w => ∀ (Z : Option Addr) (K : Nat), l.getD 0 undef = sl Z aG K → BlkO own 753 w j 64 #[sl o q p, sl Z aG K, sl O N S]) (fun hk he h _ _ H => BlkO.evo (not_hit hk (by decide)) he (h _ _ H))⟩] jT iX (fm2 cD cF) ?_ ?_
     ·refine sM a7 <| sM a7 <| sF (fun f => ok1 f.1) <| sF (fun f => or_field fo64_1 f.1 (by rfl)) ?_
      refine sc (fun own a wx hf ar V => ?_) ?_
      ·obtain ⟨i7, (P : BlkO own 577 wx j 64 #[sl o q p, sl af T ag, sl O N S]), -⟩ := hf
       exact px (ld1 to61 i7 P)
      refine sS (fun s => or_field fo30_1 (s.1.trans bx) (by rfl)) <| sG to22 aZ <| sFE (fun f V => or_litN (R := R22) (lab := 749) (L := [1, 582]) (e := 22) (cs := #[sl C c.2 u]) (l := [c.2]) (n := 1) [(79, sl C c.2 u)] rfl rfl ⟨f.1, trivial⟩ (by kernel_rfl) rfl (by decide) ⟨(Ex.iff X22).2 ⟨(C, u), rfl, (RdO.more (RdO.evo rfl V aY) (by decide))⟩, rfl⟩ rfl) ?_
      refine sc (fun own a wx hf ar V => ?_) ?_
      ·obtain ⟨i8, ⟨⟨km, j0⟩, ja, fo⟩, fl, -⟩ := hf
       exact px (or_append (R := R22) (lab := 581) (lab2 := 751) (L := [1, 582]) (L3 := [1, 582, 749]) tp61 i8 fl (by decide) ja (RwO.rd fo) iu (by decide) (by decide) (mem_of rfl) (.inr ⟨rfl, rfl, by decide, by decide⟩))
      refine sF (fun f => ok1 f.1) <| sF (fun f => or_field fo64_1 f.1 (by rfl)) ?_
      refine sc (fun own a wx hf ar V => ?_) ?_
      ·obtain ⟨jb, ⟨⟨Z, K⟩, (dg : a.eval (.tmp 81) = sl Z aG K), jY⟩, P, -⟩ := hf
       exact px (or_store1 (lab := 577) (lab2 := 753) ts61 jb dg P (by simp) rfl (mem_of rfl) (by decide) rfl (fun G a' w' ha hb => fun _ _ H => by cases (dg.symm.trans ((ha 81).symm.trans H)); exact hb))
      exact steps_nil
     intro fh gf gD iY jU h4 hG az
     obtain ⟨f7, eF, eG, eH, eI, eJ, eK⟩ := kt7 h4 a7 eA bx eB eC eD eE
     obtain ⟨⟨⟨Z, K⟩, (dg : gf.eval (.tmp 81) = sl Z aG K), (cK : RwO fh 751 [1, 582, 749] gD 22 R22 Z K aG)⟩, (a1 : ∀ (Z : Option Addr) (K : Nat), gf.eval (.tmp 81) = sl Z aG K → BlkO fh 753 gD j 64 #[sl o q p, sl Z aG K, sl O N S]), -⟩ := hG [8, 11] rfl
     have cL := a1 _ _ dg
     have hi := Evo.step hh m az rfl
     have cN := be_ az aZ
     have cI := re_ az cE
     have cH := re_ az cC
     have cJ := RdO.evo rfl az aY
     have cM := MpO.evo (by decide) az cG
     exact (gd _ _ (rl [(582, 713), (739, 714), (749, 713), (751, 712), (753, 708)] fh) _ _ _ Z K iY jU f7 eF eG eH eI eJ eK (Evo.rl_ hi m rfl) (BlkO.rl_ cL) (RwO.more (RwO.rl_ cK) (by decide)) (RwO.rl_ cI) (MpO.rl_ cM) (BlkO.rl_ cN) (RdO.more (RdO.rl_ cJ) (by decide)) (RwO.rl_ cH) D)
    refine fl_skip ?_
    exact (gd _ _ (rl [(577, 708), (581, 712), (582, 713), (587, 714)] gw) _ _ _ af ag gk gI a6 bp bq ev br bs bt (Evo.rl_ eV m rfl) (BlkO.rl_ al) (RwO.rl_ aR) (RwO.rl_ aS) (MpO.rl_ aU) (BlkO.rl_ aV) (RdO.more (RdO.rl_ aT) (by decide)) (RwO.rl_ aQ) D)
   refine fl_exit ?_
   refine im _ _ _ rfl ?_
   replace D := jL _ D
   refine il _ _ _ rfl ?_
   refine ir _ _ ?_
   refine id _ _ ?_
   refine rq_seq 99 gu (bz 3) [dv [] [9] 98 (pt j 0), dv [0] [] 4 (pt j 0), dv [] [] 5 (Zi 0)] gH gj ?_ ?_
   ·exact sM c9 <| sA <| sO (or_assign rfl) <| steps_nil
   intro js kV ld iZ lg j7 e2 bc
   have f8 := gv (e2 [1] rfl) rfl
   have f9 := gv (e2 [2] rfl) rfl
   have eW := Evo.step eU m bc rfl
   have cQ := be_ bc aM
   have cO := re_ bc aK
   have cP := re_ bc aL
   refine fl_ret ?_
   obtain rfl := osome D
   exact fb _ _ _ _ (.inl rfl) iZ (results2_ rfl (RVal.tmp_ f8) (RVal.tmp_ f9)) ⟨(rl [(577, 2), (581, 4), (582, 5), (586, 6)] js), ((none, j), (o, p), (af, ag), (O, S)), rfl, (Evo.rl_ eW m rfl), (RdO.more (RdO.rl_ (RdO.evo rfl eW ga)) (by decide)), (RwO.rl_ cO), (RwO.rl_ cP), (BlkO.rl_ cQ)⟩
theorem pack_packed_w (w : World) (own : Own) (d : List Int) (a : Option Addr) (c : Nat) (l : List ((Int × Int × Int) × (List Int))) (h : Option Addr) (i : Nat) (j : ∀ b, own b ≤ 1) (g : RdO own [1] w R5 a c d) (m : RdO own [1] w R30 h i l) (r : ((List Int) × (List (List Int)) × (List ((Int × Int × Int) × Int))) × Int) (n : pack_packed d l = some (.inl r)) :
  Calls Try.prog 23 #[sl a d c, sl h l i] w fun e k => ∃ (f : Own) (x : (Option Addr × Nat) × (Option Addr × Nat) × (Option Addr × Nat) × (Option Addr × Nat)), e = .returned (.tuple #[.pointer (some ⟨x.1.2, 0, none⟩), Zi r.2]) ∧ Evo [] own f w k ∧ RdO f [1, 3] k R5 x.2.1.1 x.2.1.2 r.1.1 ∧ RwO f 4 [1, 5] k 22 R22 x.2.2.1.1 x.2.2.1.2 r.1.2.1 ∧ RwO f 6 [] k 66 R66 x.2.2.2.1 x.2.2.2.2 r.1.2.2 ∧ BlkO f 2 k x.1.2 64 #[.slice x.2.1.1 r.1.1.length x.2.1.2, .slice x.2.2.1.1 r.1.2.1.length x.2.2.1.2, .slice x.2.2.2.1 r.1.2.2.length x.2.2.2.2] := pack_packed_z w own d a c l h i j g m (.inl r) n
theorem pack_packed_n (w : World) (own : Own) (d : List Int) (a : Option Addr) (c : Nat) (k : List ((Int × Int × Int) × (List Int))) (g : Option Addr) (h : Nat) (i : ∀ b, own b ≤ 1) (f : RdO own [1] w R5 a c d) (l : RdO own [1] w R30 g h k) (x : Unit × Int) (m : pack_packed d k = some (.inr x)) :
  Calls Try.prog 23 #[sl a d c, sl g k h] w fun e n => ∃ j : Own, e = .returned (.tuple #[.pointer none, Zi x.2]) ∧ Evo [] own j w n := pack_packed_z w own d a c k g h i f l (.inr x) m
theorem varint_Bytes_w (w : World) (l1 : List Int) (av : Option Addr) (aA : Nat) (cX : RdO (fun _ => 0) [0] w R26 av aA l1) (r : List Int) (B : varint_Bytes l1 = some r) :
  Calls Try.prog 25 #[sl av l1 aA] w fun e w' => ∃ (ar : Own) (x : Option Addr × Nat), e = .returned (.slice x.1 r.length x.2) ∧ Evo [] (fun _ => 0) ar w w' ∧ RwO ar 1 [] w' 5 R5 x.1 x.2 r := by
 refine fl_enter (n := 29) rfl rfl rfl (Nat.le_of_ble_eq_true rfl) ?_
 intro a0 Q d0 z0 b4 cY
 have du := b4 0 _ rfl
 clear b4
 have dt : Evo [] (fun _ => 0) (fun _ => 0) w w := Evo.refl _ _ _
 refine rq_seq 29 (fun _ => 0) (bz 1) [dv [] [] 2 (.slice none 0 0)] z0 d0 ?_ ?_
 ·exact sO (or_assign rfl) <| steps_nil
 intro cZ dM dP cP c2 co dw cg
 have bh := kt co du
 have cj := es_ dt cg
 refine rq_seq 29 cZ (bz 1) [dv [] [] 3 (.slice none 0 0)] c2 cP ?_ ?_
 ·exact sO (or_assign rfl) <| steps_nil
 intro c0 dN dQ cQ c3 cp cn ch
 have bi := kt cp bh
 have bj := gv (cn [0] rfl) rfl
 have ck := es_ cj ch
 refine fl_seq (fun dK cr dz => ?_)
 refine rq_seq 29 c0 [0, 1, 0] [dv [] [0] 6 (sl av l1 aA), dv [0] [] 7 (Zi (l1.length : Int)), dv [] [] 8 (Zi 0)] c3 cQ ?_ ?_
 ·exact sM bi <| sF (fun f => or_len tu103 f.1 rfl) <| sO (or_move rfl) <| steps_nil
 intro c1 dO dR cR c4 cq ag ci
 have bk := kt cq bj
 have bl := gv (ag [0] rfl) rfl
 have bm := gv (ag [1] rfl) rfl
 have bn := gv (ag [2] rfl) rfl
 have cl := es_ ck ci
 refine fl_block (fun dL dx cu dA => ?_)
 refine fl_loop (body := (fun s => varint_Bytes_b1 l1 s.1 s.2)) (z := r) (show loopO _ _ = _ from B) (fun (s : (List Int) × Int) a wx => match s with | (o, k) => ∃ (ox : Own) (q : Option Addr) (u : Nat), a.defers = [] ∧ a.tmps.size = 29 ∧ a.eval (.tmp 3) = sl q o u ∧ a.eval (.tmp 6) = sl av l1 aA ∧ a.eval (.tmp 7) = Zi (l1.length : Int) ∧ a.eval (.tmp 8) = Zi k ∧ Evo [] (fun _ => 0) ox w wx ∧ RwO ox 1247 [] wx 5 R5 q u o) ?_ ?_
 ·exact ⟨c1, none, 0, cR, c4, bk, bl, bm, bn, cl, RwO.nil_⟩
 ·rintro ⟨o, k⟩ au dk dB ⟨cv, q, u, b7, cF, aD, aE, S, T, bo, G⟩ B de bQ bU cE
  have B : varint_Bytes_b1 l1 o k = some au := B
  refine rq_seq 29 cv (bz 1) [dv [] [8, 7] 9 (.bool (decide (k < (l1.length : Int))))] cF b7 ?_ ?_
  ·exact sS (fun s => or_lss (s.1.trans T) (s.2.1.trans S) rfl) <| steps_nil
  intro ba dl dC aB bf bJ bA ak
  obtain ⟨U, V, aF, W⟩ := kt4 bJ aD aE S T
  have aG := gv (bA [0] rfl) rfl
  have C := es_ bo ak
  have y := re_ ak G
  refine fl_seq (fun df bR bV => ?_)
  refine fl_cond aG B (fun b5 B => ?_) (fun b5 B => ?_)
  ·refine fl_skip ?_
   refine bR _ _ ?_
   refine fl_seq (fun dg bS c9 => ?_)
   refine fl_block (fun dh c8 bY da => ?_)
   obtain ⟨be, P, B⟩ := obind B
   refine rq_seq 29 ba (bz 3) [dv [] [6, 8] 10 (.pointer (some ((adr av).add ((k : Int).toNat * R26.s)))), dv [0] [] 11 (.int .u64 be), dv [1] [] 5 (.int .u64 be)] bf aB ?_ ?_
   ·exact sS (fun s => or_index (R := R26) (l := l1) tl103 (s.1.trans V) (s.2.1.trans W) (RdO.some_ (RdO.evo rfl C cX) P) P) <| sFE (fun f hE => or_load1 to26 f.1 (CellsAt.zero (RdO.cells (F := E26) (RdO.evo rfl hE (RdO.evo rfl C cX)) P) rfl)) <| sA <| steps_nil
   intro cw dm dD b8 cG bK bB al
   obtain ⟨aH, aJ, aK, aL⟩ := kt4 bK U V aF W
   have aI := gv (bB [2] rfl) rfl
   have bs := es_ C al
   have H := re_ al y
   refine fl_scope_head (body := (fun s => varint_Bytes_b2_0 k s.1 s.2)) (z := au) (show loopO _ _ = _ from B) (fun (s : (List Int) × Int) a wx => match s with | (g, d) => ∃ (ox : Own) (t : Option Addr) (v : Nat), a.defers = [] ∧ a.tmps.size = 29 ∧ a.eval (.tmp 3) = sl t g v ∧ a.eval (.tmp 5) = .int .u64 d ∧ a.eval (.tmp 6) = sl av l1 aA ∧ a.eval (.tmp 7) = Zi (l1.length : Int) ∧ a.eval (.tmp 8) = Zi k ∧ Evo [] (fun _ => 0) ox w wx ∧ RwO ox 1809 [] wx 5 R5 t v g) ?_ ?_
   ·exact ⟨(rl [(1247, 1809)] cw), q, u, b8, cG, aH, aI, aJ, aK, aL, (Evo.rl_ bs (fun _ => Nat.le_refl 0) rfl), (RwO.rl_ H)⟩
   ·rintro ⟨g, d⟩
    rintro b3 dn dE ⟨cx, t, v, b9, cI, aM, X, aN, aO, aP, bp, I⟩ B di bI bW cH
    have B : varint_Bytes_b2_0 k g d = some b3 := B
    refine fl_seq (fun dj bT bX => ?_)
    refine rq_seq 29 cx (bz 2) [dv [] [5] 12 (.int .u64 d), dv [0] [] 13 (.bool (decide (d < 128)))] cI b9 ?_ ?_
    ·exact sM X <| sF (fun f => or_lss f.1 rfl rfl) <| steps_nil
    intro bb dp dF aC bg bL bC am
    obtain ⟨Y, E, Z, aa, ab⟩ := kt5 bL aM X aN aO aP
    have aw := gv (bC [1] rfl) rfl
    have aq := es_ bp am
    have A := re_ am I
    refine fl_cond aw B (fun b6 B => ?_) (fun b6 B => ?_)
    ·obtain ⟨p, bZ, B⟩ := obind B
     refine rr_seq 29 [Fct.rowAt 1809 [] 5 R5 t v g] bb [1809] [0, 0, 2, 6, 15, 31] [dv [] [3] 14 (sl t g v), dv [] [5] 15 (.int .u64 d), dv [1] [] 16 (.int .u8 (IntKind.u8.wrap d)), ⟨[2], [], [], Fct.row 1850 [] 17 5 R5 [IntKind.u8.wrap d]⟩, ⟨[0, 3, 6], [], [1809], Fct.row 1852 [] 18 5 R5 p⟩, ⟨[4], [], [], Fct.rel [3, 18] (fun l => ∀ (i : Option Addr) (b : Nat), l.getD 1 undef = sl i p b → l.getD 0 undef = sl i p b)⟩] bg aC (fm1 A) ?_ ?_
     ·refine sM Y <| sM E <| sF (fun f => or_conv f.1 tn26 tn5 rfl) <| sF (fun f => or_lit (lab := 1850) (e := 5) (cs := #[.int .u8 (IntKind.u8.wrap d)]) (F := E5) (nw1 f.1) rfl rfl (show 1 ≤ maxLen by decide)) ?_
      refine sc (fun own a wx hf ct hE => ?_) ?_
      ·obtain ⟨cS, ⟨⟨dc, c5⟩, cT, ay⟩, D, -⟩ := hf
       exact px (or_append (R := R5) (lab := 1809) (lab2 := 1852) (L := []) (L3 := []) tp22 cS D (by decide) cT (RwO.rd ay) bZ (by decide) (by decide) (mem_of rfl) (.inl (Rep.fl_flat _)))
      refine sc (fun own a wx hf ct hE => ?_) ?_
      ·obtain ⟨⟨⟨i, b⟩, (ai : a.eval (.tmp 18) = sl i p b), cN⟩, -⟩ := hf
       exact px (or_mono (f := Fct.val 3 (sl i p b)) (or_assign ai) (fun ar a' w' v' hp h => fun _ _ cf => by cases (ai.symm.trans ((hp.2 18 (by decide)).symm.trans cf)); exact h))
      exact steps_nil
     intro bc ae cC ca cJ bM bD bq
     obtain ⟨aR, aS, aT⟩ := kt3 bM Z aa ab
     obtain ⟨⟨⟨i, b⟩, (ai : ae.eval (.tmp 18) = sl i p b), (J : RwO bc 1852 [] cC 5 R5 i b p)⟩, (cB : ∀ (i : Option Addr) (b : Nat), ae.eval (.tmp 18) = sl i p b → ae.eval (.tmp 3) = sl i p b), -⟩ := bD [4, 5] rfl
     have aQ := cB _ _ ai
     have bt := es_ aq bq
     refine fl_exit ?_
     refine bX _ _ _ rfl ?_
     replace B := cH _ B
     refine bW.leaves _ _ _ rfl ?_
     refine bY _ _ ?_
     refine bS _ _ ?_
     refine rq 29 bc (bz 2) [dv [] [8] 27 (Zi (ad k 1)), dv [0] [] 8 (Zi (ad k 1))] cJ ca ?_ ?_
     ·exact sS (fun s => or_add (s.1.trans aT) rfl rfl) <| sV <| steps_nil
     intro cy dq dG cb cK bN bE an
     obtain ⟨aU, aV, aW⟩ := kt3 bN aQ aR aS
     have aX := gv (bE [1] rfl) rfl
     have bu := es_ bt an
     have K := re_ an J
     exact bQ _ _ _ B ⟨(rl [(1852, 1247)] cy), i, b, cb, cK, aU, aV, aW, aX, (Evo.rl_ bu (fun _ => Nat.le_refl 0) rfl), (RwO.rl_ K)⟩
    refine fl_skip ?_
    refine bT _ _ ?_
    obtain ⟨m, b0, B⟩ := obind B
    refine rr_seq 29 [Fct.rowAt 1809 [] 5 R5 t v g] bb [1809] [0, 0, 2, 6, 14, 31, 63] [dv [] [3] 19 (sl t g v), dv [] [5] 20 (.int .u64 d), dv [1] [] 21 (.int .u8 (IntKind.u8.wrap d)), dv [2] [] 22 (.int .u8 (orK .u8 (IntKind.u8.wrap d) 128)), ⟨[3], [], [], Fct.row 1859 [] 23 5 R5 [orK .u8 (IntKind.u8.wrap d) 128]⟩, ⟨[0, 4, 7], [], [1809], Fct.row 1861 [] 24 5 R5 m⟩, ⟨[5], [], [], Fct.rel [3, 24] (fun l => ∀ (j : Option Addr) (c : Nat), l.getD 1 undef = sl j m c → l.getD 0 undef = sl j m c)⟩] bg aC (fm1 A) ?_ ?_
    ·refine sM Y <| sM E <| sF (fun f => or_conv f.1 tn26 tn5 rfl) <| sF (fun f => or_bor f.1 rfl rfl) <| sF (fun f => or_lit (lab := 1859) (e := 5) (cs := #[.int .u8 (orK .u8 (IntKind.u8.wrap d) 128)]) (F := E5) (nw1 f.1) rfl rfl (show 1 ≤ maxLen by decide)) ?_
     refine sc (fun own a wx hf ct hE => ?_) ?_
     ·obtain ⟨cU, ⟨⟨dd, c6⟩, cV, az⟩, D, -⟩ := hf
      exact px (or_append (R := R5) (lab := 1809) (lab2 := 1861) (L := []) (L3 := []) tp22 cU D (by decide) cV (RwO.rd az) b0 (by decide) (by decide) (mem_of rfl) (.inl (Rep.fl_flat _)))
     refine sc (fun own a wx hf ct hE => ?_) ?_
     ·obtain ⟨⟨⟨j, c⟩, (aj : a.eval (.tmp 24) = sl j m c), cO⟩, -⟩ := hf
      exact px (or_mono (f := Fct.val 3 (sl j m c)) (or_assign aj) (fun ar a' w' v' hp h => fun _ _ cf => by cases (aj.symm.trans ((hp.2 24 (by decide)).symm.trans cf)); exact h))
     exact steps_nil
    intro bd af cD cc cL bO bF br
    obtain ⟨aZ, a1, a2, a3⟩ := kt4 bO E Z aa ab
    obtain ⟨⟨⟨j, c⟩, (aj : af.eval (.tmp 24) = sl j m c), (M : RwO bd 1861 [] cD 5 R5 j c m)⟩, (cB : ∀ (j : Option Addr) (c : Nat), af.eval (.tmp 24) = sl j m c → af.eval (.tmp 3) = sl j m c), -⟩ := bF [5, 6] rfl
    have aY := cB _ _ aj
    have bv := es_ aq br
    obtain ⟨ah, b1, B⟩ := obind B
    refine rq_seq 29 bd (bz 3) [dv [] [5] 25 (.int .u64 d), dv [0] [] 26 (.int .u64 ah), dv [1] [] 5 (.int .u64 ah)] cL cc ?_ ?_
    ·exact sM aZ <| sF (fun f => or_shr f.1 rfl b1) <| sA <| steps_nil
    intro cz dr dH cd cM bP bG ao
    obtain ⟨a4, a6, a7, a8⟩ := kt4 bP aY a1 a2 a3
    have a5 := gv (bG [2] rfl) rfl
    have bw := es_ bv ao
    have N := re_ ao M
    refine fl_goto ?_
    exact bI (m, ah) _ _ B ⟨(rl [(1861, 1809)] cz), j, c, cd, cM, a4, a5, a6, a7, a8, (Evo.rl_ bw (fun _ => Nat.le_refl 0) rfl), (RwO.rl_ N)⟩
  refine fl_exit ?_
  refine bV _ _ _ rfl ?_
  replace B := cE _ B
  refine bU _ _ _ rfl ?_
  refine cu _ _ ?_
  refine cr _ _ ?_
  refine rq_seq 29 ba (bz 2) [dv [] [3] 28 (sl q o u), dv [0] [] 2 (sl q o u)] bf aB ?_ ?_
  ·exact sM U <| sA <| steps_nil
  intro cA ds dI ce dJ c7 bH ap
  have a9 := gv (bH [1] rfl) rfl
  have bx := es_ C ap
  have O := re_ ap y
  refine fl_ret ?_
  obtain rfl := (osome B).symm
  exact cY _ _ _ _ (.inl rfl) ce (results1_ rfl (RVal.tmp_ a9)) ⟨(rl [(1247, 1)] cA), (q, u), rfl, (Evo.rl_ bx (fun _ => Nat.le_refl 0) rfl), (RwO.rl_ O)⟩
end Go.Proofs.Ytnmkonlfnpcoiaa
