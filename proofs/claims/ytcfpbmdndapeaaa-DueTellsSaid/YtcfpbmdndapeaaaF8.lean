-- Written by a program of this session (xprint.py), out of the translation and of contracts proved by hand.
import Derived.Test.YtcfpbmdndapeaaaF0
import Derived.Test.YtcfpbmdndapeaaaF4
import Derived.Test.YtcfpbmdndapeaaaF6
import Derived.Test.YtcfpbmdndapeaaaF7
namespace Go.Proofs.Ytcfpbmdndapeaaa.F
open Go.RowKit Go.Proofs.YtcfpbmdndapeaaaV.PrintWords Go.Proofs.YtcfpbmdndapeaaaV.PrintLast Go.Proofs.YtcfpbmdndapeaaaV.PrintMore
attribute [local go_sem] max2_int min2_int max_two min_two max_three min_three max_four min_four
set_option linter.unusedVariables false
set_option linter.unusedSimpArgs false
theorem due_turned.no (P:Nat) (x0 x1 x2 x3 x4 x5 at_ ph:Int) (w:World) (hc:decide (x5>at_)=true):
    Calls Try.prog 70 #[.pointer (some ⟨P,0,none⟩),.agg #[.int .i64 x0,.int .i64 x1,.int .i64 x2,.int .i64 x3,.int .i64 x4,.int .i64 x5],.int .i64 at_,.int .i64 ph] w fun e w'=>e=.returned (.agg #[.int .i64 x0,.int .i64 x1,.int .i64 x2,.int .i64 x3,.int .i64 x4,.int .i64 x5])∧Below w.heap.size w w':=by
  have hu0:=Try.underlying28
  have hu1:=Try.underlying26
  have hu2:=Try.underlying65
  have HT:=zB (T.Tell.init w)
  go_enter Try.func70,Try.ntmps70
  go_wp2_with (first|((with_reducible refine gate_dst (N:=5) rfl ?_);refine be_ (N:=5) (cs:=#[.int .i64 x0,.int .i64 x1,.int .i64 x2,.int .i64 x3,.int .i64 x4,.int .i64 x5]) (t:=28) ?_;intro g_a hg w_5 hbox hb;replace HT:=zB (HT.out.pushBe hbox hg hb);clear hb hbox hg)|((with_reducible refine gate_dst (N:=8) rfl ?_);refine be_ (N:=8) (cs:=#[.int .i64 0,.int .i64 0,.int .i64 0,.int .i64 0,.int .i64 0,.int .i64 0]) (t:=28) ?_;intro g_r hg w_8 hbox hb;replace HT:=zB (HT.out.pushBe hbox hg hb);clear hb hbox hg;have hx0_a:=(HT.out.bx 1 rfl 0).trans rfl;have hx1_a:=(HT.out.bx 1 rfl 1).trans rfl;have hx2_a:=(HT.out.bx 1 rfl 2).trans rfl;have hx3_a:=(HT.out.bx 1 rfl 3).trans rfl;have hx4_a:=(HT.out.bx 1 rfl 4).trans rfl;have hx5_a:=(HT.out.bx 1 rfl 5).trans rfl;have hz_a:=(HT.out.far 1 rfl (k:=g_a) rfl).1;have hf0_:=HT.out.fz 0 rfl 0;have hf1_:=HT.out.fz 0 rfl 1;have hf2_:=HT.out.fz 0 rfl 2;have hf3_:=HT.out.fz 0 rfl 3;have hf4_:=HT.out.fz 0 rfl 4;have hf5_:=HT.out.fz 0 rfl 5;have hx0_r:=(HT.out.bx 0 rfl 0).trans rfl;have hx1_r:=(HT.out.bx 0 rfl 1).trans rfl;have hx2_r:=(HT.out.bx 0 rfl 2).trans rfl;have hx3_r:=(HT.out.bx 0 rfl 3).trans rfl;have hx4_r:=(HT.out.bx 0 rfl 4).trans rfl;have hx5_r:=(HT.out.bx 0 rfl 5).trans rfl))
  have HF:=((((((HT.out.put 0 rfl 0 (.int .i64 x0)).put 0 rfl 1 (.int .i64 x1)).put 0 rfl 2 (.int .i64 x2)).put 0 rfl 3 (.int .i64 x3)).put 0 rfl 4 (.int .i64 x4)).put 0 rfl 5 (.int .i64 x5))
  refine bodyPost_ret (results_cell_row rfl _ _ g_r 28 #[.int .i64 x0,.int .i64 x1,.int .i64 x2,.int .i64 x3,.int .i64 x4,.int .i64 x5] (0,0) _ rfl (HF.get 0 rfl) Try.underlying28 rfl (by kernel_rfl)) rfl ?_
  exact⟨rfl,HF.below⟩
def due_turned.T3:Bool×List (List Nat×List Nat):=(true,[([],[]),([],[]),([1],[1]),([2],[2]),([],[]),([4],[4]),([],[]),([6],[6]),([],[]),([5,7,8],[5,7,8]),([9],[9]),([3,10],[3,10]),([0,0,1,2,3,4,5,6,7,8,9,10,11],[0]),([12,11,11,0,1,2,3,4,5,6,7,8,9,10,11],[11,12])])
def due_turned.B3:List Nat:=[0,0,2,6,0,16,0,64,0,496,1008,2046,4095,8191]
theorem due_turned.tab3:rtab .any (opsOf Try.f70 3)=due_turned.T3:=by kernel_rfl
theorem due_turned.bits3:waitsOk due_turned.T3.2 due_turned.B3=true:=by kernel_rfl
set_option maxHeartbeats 8000000 in
set_option maxRecDepth 100000 in
theorem due_turned.yes (k base m P:Nat) (v:Value) (xs:List S65) (x0 x1 x2 x3 x4 x5 at_ ph p0 p1 p2 p3 p4 p5:Int) (w:World) (hc:decide (x5>at_)=false) (hv:Boxed w P 53 v) (hR:Kd.R k65 65 w base (fun j=>m≤j) v xs) (hP:P<m) (hbP:base≤P) (hm:m≤w.heap.size) (hl:xs.length<1000000) (h:alarm_Pass.f k x0 x1 x2 x3 x4 x5 x5=some (p0,p1,p2,p3,p4,p5)):
    Calls Try.prog 70 #[.pointer (some ⟨P,0,none⟩),.agg #[.int .i64 x0,.int .i64 x1,.int .i64 x2,.int .i64 x3,.int .i64 x4,.int .i64 x5],.int .i64 at_,.int .i64 ph] w fun e w'=>e=.returned (.agg #[.int .i64 p0,.int .i64 p1,.int .i64 p2,.int .i64 p3,.int .i64 p4,.int .i64 p5])∧ ∃v',Boxed w' P 53 v'∧Kd.R k65 65 w' base (fun j=>m≤j) v' (xs++[(⟨x5,⟨x0,x1⟩,ph⟩:S65)])∧(∀(j:Nat) (o:Obj),j≠P→some j≠v.ownBlock→w.heap[j]?=some o→w'.heap[j]?=some o)∧Below base w w':=by
  have hu0:=Try.underlying28
  have hu1:=Try.underlying26
  have hu2:=Try.underlying65
  have HH:=zB h;have HV:=zB hv;have HR:=zB hR;have HM:=zB hm;have HL:=zB hl;have HP:=zB (show base≤P∧P<m from⟨hbP,hP⟩)
  clear h hv hR hm hl hP hbP
  have HT:=zB (T.Tell.init w)
  go_enter Try.func70,Try.ntmps70
  go_upto_region 3 with(first|((with_reducible refine gate_dst (N:=5) rfl ?_);refine be_ (N:=5) (cs:=#[.int .i64 x0,.int .i64 x1,.int .i64 x2,.int .i64 x3,.int .i64 x4,.int .i64 x5]) (t:=28) ?_;intro g_a hg w_5 hbox hb;replace HT:=zB (HT.out.pushBe hbox hg hb);clear hb hbox hg)|((with_reducible refine gate_dst (N:=8) rfl ?_);refine be_ (N:=8) (cs:=#[.int .i64 0,.int .i64 0,.int .i64 0,.int .i64 0,.int .i64 0,.int .i64 0]) (t:=28) ?_;intro g_r hg w_8 hbox hb;replace HT:=zB (HT.out.pushBe hbox hg hb);clear hb hbox hg;have hx0_a:=(HT.out.bx 1 rfl 0).trans rfl;have hx1_a:=(HT.out.bx 1 rfl 1).trans rfl;have hx2_a:=(HT.out.bx 1 rfl 2).trans rfl;have hx3_a:=(HT.out.bx 1 rfl 3).trans rfl;have hx4_a:=(HT.out.bx 1 rfl 4).trans rfl;have hx5_a:=(HT.out.bx 1 rfl 5).trans rfl;have hz_a:=(HT.out.far 1 rfl (k:=g_a) rfl).1))
  have BA:=zB (HT.out.get 1 rfl);have BR:=zB (HT.out.get 0 rfl);have HB8:=zB HT.out.below
  have GA:=zB (HT.out.far 1 rfl (k:=g_a) rfl).2;have GR:=zB (HT.out.far 0 rfl (k:=g_r) rfl).2
  have HKO:=zB (show ∀(j:Nat) (o:Obj),w.heap[j]?=some o→w_8.heap[j]?=some o from fun j o ho=>blk_below ho HT.out.below)
  have HNP:=zB (show some P≠v.ownBlock from fun he=>by have:=HR.out.1 _ he.symm;have:=HP.out;omega)
  have HNA:=zB (show some g_a≠v.ownBlock from fun he=>by have:=((Kd.R_bound HR.out).1 _ he.symm).2.2.1;have:=GA.out;omega)
  have HNR:=zB (show some g_r≠v.ownBlock from fun he=>by have:=((Kd.R_bound HR.out).1 _ he.symm).2.2.1;have:=GR.out;omega)
  have HPW:=zB (show P<w.heap.size from Boxed.lt HV.out)
  replace HV:=zB (show Boxed w_8 P 53 v from blk_below HV.out HB8.out)
  replace HR:=rb_ HR HB8.out
  replace HM:=zB (Nat.le_trans HM.out HB8.out.size)
  have HBW:=zB (show base≤w_8.heap.size by have:=HP.out;have:=HM.out;omega)
  clear HT
  replace HV:=zB (show Boxed w_8.drew P 53 v from HV.out);replace HR:=zB (Kd.R_drew HR.out);replace BA:=zB (zX BA.out);replace BR:=zB (zX BR.out);replace HB8:=zB (HB8.out.trans (T.below_drew_ _|>.mono HB8.out.size));replace HKO:=zB (show ∀(j:Nat) (o:Obj),w.heap[j]?=some o→w_8.drew.heap[j]?=some o from HKO.out);replace HM:=zB (show m≤w_8.drew.heap.size from HM.out);replace HBW:=zB (show base≤w_8.drew.heap.size from HBW.out)
  refine start_ (n:=14) (S:=fun w'=>w'.cell? ⟨g_a,0,none⟩=some (.int .i64 x0)∧w'.cell? ⟨g_a,1,none⟩=some (.int .i64 x1)∧w'.cell? ⟨g_a,5,none⟩=some (.int .i64 x5)∧w'.cell? ⟨P,0,none⟩=some (v)) (ds:=[13]) (bt_ 0 14) (by kernel_rfl) rfl rfl ⟨(zD BA.out 0).trans rfl,(zD BA.out 1).trans rfl,(zD BA.out 5).trans rfl,HV.out.cell⟩ (fun hHeld=>?_);refine with_tabW due_turned.tab3 due_turned.bits3 (fun HT_ HW_=>?_)
  generalize w_8.drew=wq at HV HR BA BR HB8 HKO HM HBW hHeld⊢
  have Q_:=Qs.mk (n:=14) [(0,0,14,1),(0,1,15,3),(0,2,16,7),(0,4,18,23),(0,6,20,87),(0,8,22,343),(2,3,17,351),(2,5,19,383),(2,7,21,511),(0,9,23,1023)]
  iterate 10 (first|(refine pq_ Q_ ?_;replace Q_:=qt_ Q_)|(refine tq_ Q_ hHeld ?_;replace Q_:=qt_ Q_))
  clear Q_
  refine one_ (i:=10) (N:=some 24) (bt_ 2047 14) rfl rfl (one_of HT_.out (by kernel_rfl)) (by decide) (fun K hK=>?_)
  refine value_ (w1:=?_) (v:=?_) (by rfl) rfl ?_ ?_
  rotate_left 2
  · go_simp
    constructor
    · rfl
    · rfl
  refine hK.out _ _ ⟨(zD (zT BA.out _) 0).trans rfl,(zD (zT BA.out _) 1).trans rfl,(zD (zT BA.out _) 5).trans rfl,(HV.out.alloc _).cell⟩ (fun hHeld=>?_);clear hK K
  refine norm_ (a':=?_) ?_ ?_
  rotate_left
  · show Act.put _ (some 24) _=_
    simp only[Act.put,zE,zH,zI,i64_w,i32_w]
    rfl
  refine one_ (i:=11) (N:=some 25) (bt_ 4095 14) rfl rfl (one_of HT_.out (by kernel_rfl)) (by decide) (fun K hK=>?_)
  refine Kd.R_append_step k65 (w0:=wq) (W:=wq) base (by rfl) (.tmp 17) (.tmp 24) 53 65 (.agg #[.int .i64 0,.int .i64 0,.int .i64 0,.int .i64 0]) 32 rfl Try.underlying53 info65 rfl (by decide) (by omega) v xs (⟨x5,⟨x0,x1⟩,ph⟩:S65) [.int .i64 x5,.int .i64 x0,.int .i64 x1,.int .i64 ph] (fun j=>m≤j) (fun _=>False) rfl rfl (k65_mkM _ _ _ _) (fun _ h=>h.elim) (fun j hj=>Nat.le_trans HM.out hj) HR.out (Below.refl _ _) HBW.out (by have:=HL.out;omega) ?_
  intro v1 w3 ho hb hg hat
  obtain⟨A2,c2,e2⟩:=Kd.R_slice ho;rw[List.length_append,List.length_singleton] at e2;subst e2
  have hV3:=zB (HV.out.kept hg HNP.out)
  have hA3:=zB (blk_grown BA.out hg HNA.out)
  have hR3:=zB (blk_grown BR.out hg HNR.out)
  have HO:=zB ho;have HBL:=zB hb;have HG:=zB hg
  clear ho hb hg hat
  refine hK.out _ _ ⟨(zD hA3.out 0).trans rfl,(zD hA3.out 1).trans rfl,(zD hA3.out 5).trans rfl,hV3.out.cell⟩ (fun hHeld=>?_);clear hK K
  refine norm_ (a':=?_) ?_ ?_
  rotate_left
  · show Act.put _ (some 25) _=_
    simp only[Act.put,zE,zH,zI,i64_w,i32_w]
    rfl
  have Q_:=Qs.mk (n:=14) [(0,12,26,8191)]
  iterate 1 (refine pq_ Q_ ?_;replace Q_:=qt_ Q_)
  clear Q_
  refine last_ (i:=13) (N:=none) (bt_ 16383 14) rfl rfl (one_of HT_.out (by kernel_rfl)) (by decide) (fun K hK=>?_)
  have hcv:=hV3.out.cell;have hfv:=hV3.out.frozen
  refine skip_ (w1:=?_) (by rfl) rfl ?_ ?_
  rotate_left
  · go_simp
    rfl
  refine hK.out _ _ ?_
  clear hK K
  refine done_ (done_of HT_.out (by kernel_rfl)) ?_;clear hHeld
  have hA4:=(Below.heap_setCell w3 ⟨P,0,none⟩ (.slice A2 (xs.length+1) c2) g_a (by have:=GA.out;have:=HPW.out;show g_a≠P;omega)).trans hA3.out
  have hR4:=(Below.heap_setCell w3 ⟨P,0,none⟩ (.slice A2 (xs.length+1) c2) g_r (by have:=GR.out;have:=HPW.out;show g_r≠P;omega)).trans hR3.out
  have hV4:Boxed (w3.setCell ⟨P,0,none⟩ (.slice A2 (xs.length+1) c2)) P 53 (.slice A2 (xs.length+1) c2):=hV3.out.set (.slice A2 (xs.length+1) c2)
  have hO4:=Kd.R_far HO.out (p:=⟨P,0,none⟩) (fun j hj=>by have:=HP.out;show j≠P;omega) (.slice A2 (xs.length+1) c2)
  have hK4: ∀(j:Nat) (o:Obj),j≠P→some j≠v.ownBlock→w.heap[j]?=some o→(w3.setCell ⟨P,0,none⟩ (.slice A2 (xs.length+1) c2)).heap[j]?=some o:=fun j o h1 h2 h3=>(Below.heap_setCell w3 ⟨P,0,none⟩ (.slice A2 (xs.length+1) c2) j h1).trans (blk_grown (HKO.out j o h3) HG.out h2)
  have hB4:Below base w (w3.setCell ⟨P,0,none⟩ (.slice A2 (xs.length+1) c2)):=(HB8.out.mono (by have:=HP.out;have:=HPW.out;omega)).trans (HBL.out.setCell (p:=⟨P,0,none⟩) HP.out.1 (.slice A2 (xs.length+1) c2))
  clear hHeld HV HR BA BR HB8 HKO HM HBW HO HBL HG hV3 hA3 hR3
  try clear hcv hfv
  generalize w3.setCell ⟨P,0,none⟩ (.slice A2 (xs.length+1) c2)=w4 at hA4 hR4 hV4 hO4 hK4 hB4⊢
  have BA:=zB hA4;have BR:=zB hR4;have HV:=zB hV4;have HO:=zB hO4;have HK:=zB hK4;have HB:=zB hB4
  clear hA4 hR4 hV4 hO4 hK4 hB4
  have hx0:=(zD BA.out 0).trans rfl;have hx1:=(zD BA.out 1).trans rfl;have hx2:=(zD BA.out 2).trans rfl;have hx3:=(zD BA.out 3).trans rfl;have hx4:=(zD BA.out 4).trans rfl;have hx5:=(zD BA.out 5).trans rfl
  go_wp2_with (first|((with_reducible refine gate_dst (N:=30) rfl ?_);refine gl_ (some 30) Try.func34 #[.agg #[.int .i64 x0,.int .i64 x1,.int .i64 x2,.int .i64 x3,.int .i64 x4,.int .i64 x5],.int .i64 x5] rfl ?_;(with_reducible refine(alarm_Pass.calls k x0 x1 x2 x3 x4 x5 x5 p0 p1 p2 p3 p4 p5 _ HH.out).mono ?_);rintro e_ w_30 ⟨rfl,hb⟩;refine⟨_,rfl,?_⟩;have BR2:=zB (blk_below BR.out hb);have HV2:=zB (show Boxed w_30 P 53 _ from blk_below HV.out hb);have HB2:=zB hb;clear hb;have hr0:=(zD BR2.out 0).trans rfl;have hq0:=zC BR2.out 0;have hr1:=(zD BR2.out 1).trans rfl;have hq1:=zC BR2.out 1;have hr2:=(zD BR2.out 2).trans rfl;have hq2:=zC BR2.out 2;have hr3:=(zD BR2.out 3).trans rfl;have hq3:=zC BR2.out 3;have hr4:=(zD BR2.out 4).trans rfl;have hq4:=zC BR2.out 4;have hr5:=(zD BR2.out 5).trans rfl;have hq5:=zC BR2.out 5))
  have hPR:P≠g_r:=by have:=GR.out;have:=HPW.out;omega
  have hO2:=Kd.R_types (Kd.R_below HO.out HB2.out) BR2.out (by decide)
  have hV2:=HV2.out
  refine bodyPost_ret (results_cell_row rfl _ _ g_r 28 #[.int .i64 p0,.int .i64 p1,.int .i64 p2,.int .i64 p3,.int .i64 p4,.int .i64 p5] (0,0) _ rfl (by refine zZ (cs:=#[.int .i64 p0,.int .i64 p1,.int .i64 p2,.int .i64 p3,.int .i64 p4,.int .i64 0]) ?_ 5 _ rfl;refine zZ (cs:=#[.int .i64 p0,.int .i64 p1,.int .i64 p2,.int .i64 p3,.int .i64 0,.int .i64 0]) ?_ 4 _ rfl;refine zZ (cs:=#[.int .i64 p0,.int .i64 p1,.int .i64 p2,.int .i64 0,.int .i64 0,.int .i64 0]) ?_ 3 _ rfl;refine zZ (cs:=#[.int .i64 p0,.int .i64 p1,.int .i64 0,.int .i64 0,.int .i64 0,.int .i64 0]) ?_ 2 _ rfl;refine zZ (cs:=#[.int .i64 p0,.int .i64 0,.int .i64 0,.int .i64 0,.int .i64 0,.int .i64 0]) ?_ 1 _ rfl;refine zZ (cs:=#[.int .i64 0,.int .i64 0,.int .i64 0,.int .i64 0,.int .i64 0,.int .i64 0]) ?_ 0 _ rfl;exact BR2.out) Try.underlying28 rfl (by kernel_rfl)) rfl ?_
  have far: ∀(W:World) (j:Nat) (u:Value) (b:Nat),b≠g_r→(W.setCell ⟨g_r,j,none⟩ u).heap[b]?=W.heap[b]?:=fun W j u b h=>Below.heap_setCell W ⟨g_r,j,none⟩ u b h
  have hbg:base≤g_r:=by have:=HP.out;have:=HPW.out;have:=GR.out;omega
  refine⟨rfl,.slice A2 (xs.length+1) c2,((far _ _ _ _ hPR).trans ((far _ _ _ _ hPR).trans ((far _ _ _ _ hPR).trans ((far _ _ _ _ hPR).trans ((far _ _ _ _ hPR).trans ((far _ _ _ _ hPR).trans hV2)))))),Kd.R_mono ((Kd.R_far (Kd.R_far (Kd.R_far (Kd.R_far (Kd.R_far (Kd.R_far hO2 (p:=⟨g_r,0,none⟩) (fun _ hk=>hk.2) (.int .i64 p0)) (p:=⟨g_r,1,none⟩) (fun _ hk=>hk.2) (.int .i64 p1)) (p:=⟨g_r,2,none⟩) (fun _ hk=>hk.2) (.int .i64 p2)) (p:=⟨g_r,3,none⟩) (fun _ hk=>hk.2) (.int .i64 p3)) (p:=⟨g_r,4,none⟩) (fun _ hk=>hk.2) (.int .i64 p4)) (p:=⟨g_r,5,none⟩) (fun _ hk=>hk.2) (.int .i64 p5))) (fun _ hk=>hk.1),fun j o h1 h2 h3=>?_,(((((((HB.out.trans (HB2.out.mono (by have:=HP.out;have:=HPW.out;have:=Boxed.lt HV.out;omega))).setCell (p:=⟨g_r,0,none⟩) hbg (.int .i64 p0)).setCell (p:=⟨g_r,1,none⟩) hbg (.int .i64 p1)).setCell (p:=⟨g_r,2,none⟩) hbg (.int .i64 p2)).setCell (p:=⟨g_r,3,none⟩) hbg (.int .i64 p3)).setCell (p:=⟨g_r,4,none⟩) hbg (.int .i64 p4)).setCell (p:=⟨g_r,5,none⟩) hbg (.int .i64 p5))⟩
  have hj:j≠g_r:=by have:=blk_lt h3;have:=GR.out;omega
  exact((far _ _ _ _ hj).trans ((far _ _ _ _ hj).trans ((far _ _ _ _ hj).trans ((far _ _ _ _ hj).trans ((far _ _ _ _ hj).trans ((far _ _ _ _ hj).trans (blk_below (HK.out j o h1 h2 h3) HB2.out)))))))
section
attribute [local go_sem] Oper.semAt_some
set_option maxRecDepth 100000 in
set_option maxHeartbeats 4000000 in
theorem appendseq_Turn.calls (A:Option Addr) (c:Nat) (l:List S65) (w0 w:World) (B:Nat) (hr:Kd.C k65 w0 A l.length l) (hw:Below w0.heap.size w0 w)
    (hB:w.heap[B]?=some (.cells #[.slice A l.length c] 53 (0,0))) (hl:l.length<1000000):
    Calls Try.prog 104 #[.slice none 0 0,.func (.func 98) #[] #[.pointer (some ⟨B,0,none⟩)]] w fun e w'=> ∃v0_:Value,e=.returned (v0_)∧Kd.R k65 65 w' w.heap.size (fun _=>True) v0_ l∧Below w.heap.size w w':=by
  have hu2:=Try.underlying65
  have hBl:=zB (blk_lt hB)
  have HR:=zB hr
  have HW:=zB hw
  have HBB:=zB hB
  have LM:=zB hl
  clear hr hw hB hl
  have hfa: ∀f,Fence.wide.fn f:=fun _=>trivial
  refine(callsIn_wide (n:=3)).1 ?_
  refine callsIn_of_wp_marks Try.func104 rfl trivial ?_ rfl
  simp only[Try.ntmps104,List.size_toArray,List.length_cons,List.length_nil,Nat.reduceAdd,Nat.reduceSub,Array.replicate_succ,Array.replicate_zero,List.push_toArray,List.append_toArray,List.nil_append,List.cons_append]
  gi_wp2
  obtain⟨w1,e1⟩: ∃w1,w.alloc (.cells #[.slice none 0 0] 53)=w1:=⟨_,rfl⟩
  rw[e1]
  have s1:w1.heap.size=w.heap.size+1:=by rw[←e1];simp
  have b1:w1.heap[w.heap.size]?=some (.cells #[.slice none 0 0] 53 (0,0)):=by rw[←e1];exact blk_new w _
  have l1:Below w.heap.size w w1:=by rw[←e1];exact below_alloc (Below.refl _ _) _
  clear e1
  have S1:=zB s1
  have B1:=zB b1
  have L1:=zB l1
  have LW:=zB (zQ HW.out l1)
  have BB1:=zB (blk_below HBB.out l1)
  clear s1 b1 l1
  refine wpIn_rangeFunc_ownH (α:=Fin l.length) (F:=Fence.wide) (n:=3) rfl (by decide) (gf:=98) rfl trivial (enters_of Try.func98 (by kernel_rfl) rfl)
    (values1_Turn.stops 2 (by decide) A c l w0 w1 B HR.out LW.out BB1.out)
    (fun h k=>h.t k) (fun W l_ o o' hl_ h h1 h2=>KpV.b (w:=w1) (m:=w0.heap.size) (B:=B) LW.out.size (by have:=hBl.out;have:=S1.out;omega) W l_ o o' hl_ h h1 h2) (Below.refl _ _) (fun _=>rfl)
    (fun pre W=>(∃v,Boxed W w.heap.size 53 v∧Kd.R k65 65 W w.heap.size (fun k=>w.heap.size+1≤k) v (pre.map (fun i=>l[i])))∧w1.heap.size≤W.heap.size∧Below w.heap.size w W)
    (fun _ _ _=>False)
    ?own (fun _ _ _ _ _ hs _ _=>hs) ?start
    (fun x a' W=> ∃P:Nat,a'={tmps:=#[.slice none 0 0,.func (.func 98) #[] #[.pointer (some ⟨B,0,none⟩)],.pointer (some ⟨w.heap.size,0,none⟩),undef,.slice none 0 0,.pointer (some ⟨P,0,none⟩),.func (.func 98) #[] #[.pointer (some ⟨B,0,none⟩)],.agg #[.int .i64 (rd_T65 l (x.1:Int)).f0,.int .i64 (rd_T65 l (x.1:Int)).f1.f0,.int .i64 (rd_T65 l (x.1:Int)).f1.f1,.int .i64 (rd_T65 l (x.1:Int)).f2],undef,undef,undef,undef,undef],defers:=[]}∧W.heap[P]?=some (.cells #[.int .i64 (rd_T65 l (x.1:Int)).f0,.int .i64 (rd_T65 l (x.1:Int)).f1.f0,.int .i64 (rd_T65 l (x.1:Int)).f1.f1,.int .i64 (rd_T65 l (x.1:Int)).f2] 65 (0,0)))
    ?ownA ?assign ?body ?done ?stop
  case own=>exact OwnFrom.and (Own.from (Go.Proofs.Ytcfpbmdndapeaaa.X.boxR_own k65 65 w.heap.size w.heap.size 53 _ (fun pre:List (Fin l.length)=>pre.map (fun i=>l[i]))) _) (OwnFrom.and (fun _ _ _ _ hs hg _=>Nat.le_trans hs hg.size) (ownFrom_below (za _) (by have:=S1.out;omega)))
  case start=>exact⟨⟨_,B1.out,Kd.R_nil _ _ _ _ _⟩,za _,L1.out⟩
  case ownA=>
    rintro x a' _ X Y row ⟨P,e,hP⟩ hg hrow
    exact⟨P,e,Go.Proofs.Ytcfpbmdndapeaaa.X.blk_own (β:=Unit) (fun _=>_) () X Y row hP hg (fun r e=>(hrow r e).2)⟩
  case assign=>
    rintro l_ pre x W K ⟨⟨v,hv,hR⟩,hsz,hbel⟩ hK
    gi_wp2
    refine hK _ _ ?_ ?_ ?_ ⟨W.heap.size,rfl,blk_new W _⟩
    · exact KeepsFrom.of_grownBy (World.grownBy_alloc W _ none) (fun _ e=>by cases e)
    · exact⟨(below_alloc (Below.refl W.heap.size W) _).mono (by have:=LW.out.size;omega),fun o ho=>blk_below ho (below_alloc (Below.refl _ _) _)⟩
    · exact⟨⟨v,hv.alloc _,Kd.R_alloc hR _⟩,by simp;omega,below_alloc hbel _⟩
  case stop=>
    rintro D c_ pre W hD _ h
    exact h.elim
  case done=>
    rintro D ys W hD rfl ⟨⟨v,hv,hR⟩,hsz,hbel⟩ hK
    have hc:=hv.cell
    have hm:(List.finRange l.length).map (fun i=>l[i])=l:=by apply List.ext_getElem<;>simp
    rw[hm] at hR
    have RO:=zB (Kd.R_mono hR (fun _ _=>trivial):Kd.R k65 65 W w.heap.size (fun _=>True) v l)
    have BO:=zB hbel
    have KO:=zB hK
    have DO:=zB hD
    clear hR hbel hK hD hsz hv hm
    gi_wp2
    refine⟨by simp,.inl ⟨_,_,rfl,run_takeDeferred KO.out,?_⟩⟩
    exact⟨_,results_tmp rfl _ _ _,_,rfl,Go.Proofs.Ytcfpbmdndapeaaa.X.R_nocells RO.out (grownBy_putObj' _ _ _) (fun r e=>by cases e;exact⟨_,KO.out,rfl⟩),BO.out.grown (grownBy_putObj' _ _ _) BO.out.size (fun k e=>by cases e;have:=S1.out;have:=DO.out;omega)⟩
  case body=>
    rintro y pre x a' W hy _ ⟨⟨v,hv,hR⟩,hsz,hbel⟩ ⟨P,rfl,hP⟩ hlen
    have hle:w.heap.size+1≤W.heap.size:=by have:=S1.out;omega
    have hc2:W.cell? ⟨w.heap.size,0,none⟩=some v:=hv.cell
    have hf2:W.frozen? ⟨w.heap.size,0,none⟩=false:=hv.frozen
    have hrd:rd_T65 l (x.1:Int)=l[x]:=by simp[rd_T65,List.getD_eq_getElem?_getD]
    have hmap:(pre++[x]).map (fun i=>l[i])=pre.map (fun i=>l[i])++[l[x]]:=by rw[List.map_append];rfl
    rw[←hrd] at hmap
    generalize rd_T65 l (x.1:Int)=y_ at hP hmap⊢
    clear hrd
    obtain⟨x0,⟨x1,x2⟩,x3⟩:=y_
    have hp0:W.cell? ⟨P,0,none⟩=some (.int .i64 x0):=(zD hP 0).trans rfl
    have hp1:W.cell? ⟨P,1,none⟩=some (.int .i64 x1):=(zD hP 1).trans rfl
    have hp2:W.cell? ⟨P,2,none⟩=some (.int .i64 x2):=(zD hP 2).trans rfl
    have hp3:W.cell? ⟨P,3,none⟩=some (.int .i64 x3):=(zD hP 3).trans rfl
    obtain⟨xs,hxs⟩: ∃xs,xs=pre.map (fun i=>l[i]):=⟨_,rfl⟩
    rw[←hxs] at hR hmap
    have hxl:xs.length<l.length:=by rw[hxs,List.length_map];exact hlen
    obtain⟨A1,c1,rfl⟩:=Kd.R_slice hR
    have MP:=zB hmap
    have RB:=zB hR
    have BB:=zB hbel
    have VB:=zB hv
    have SB:=zB hsz
    have XL:=zB hxl
    clear hmap hR hbel hv hsz hP hlen hxs hxl
    have hcells: ∀(j:Nat) (o:Obj),(Value.slice A1 xs.length c1).ownBlock=some j→W.heap[j]?=some o→o.isCells=true:=fun j o hj ho'=>by
      obtain⟨_,_,_,q,_,cells,hcells⟩:=(Kd.R_bound RB.out).1 j hj
      rw[hcells] at ho';cases ho';rfl
    have HCE:=zB hcells
    clear hcells
    gi_wp2_with (refine Go.Proofs.Ytcfpbmdndapeaaa.X.R_append_in k65 (w0:=W) (W:=W) w.heap.size rfl (.tmp 8) (.tmp 10) 53 65 (.agg #[.int .i64 0,.int .i64 0,.int .i64 0,.int .i64 0]) 32 rfl Try.underlying53 info65 rfl (by decide) (by omega) (.slice A1 xs.length c1) xs ⟨x0,⟨x1,x2⟩,x3⟩ [.int .i64 x0,.int .i64 x1,.int .i64 x2,.int .i64 x3] (fun k=>w.heap.size+1≤k) (fun _=>False) rfl rfl (k65_mkM _ _ _ _) (fun _ h=>h.elim) (fun k hk=>Nat.le_trans hle hk) RB.out (Below.refl _ _) (by omega) (by have:=XL.out;have:=LM.out;omega) ?_;intro v1 w3 ho hb hg hat;obtain⟨A2,c2,e2⟩:=Kd.R_slice ho;rw[List.length_append,List.length_singleton] at e2;subst e2;have hne:some w.heap.size≠(Value.slice A1 xs.length c1).ownBlock:=(fun he=>by have:=RB.out.1 _ he.symm;omega);have hv3:Boxed w3 w.heap.size 53 (.slice A1 xs.length c1):=VB.out.kept hg hne;have hc3:=hv3.cell;have hf3:=hv3.frozen;have HG:=zB hg;have HO:=zB ho;have HBL:=zB hb;have HV:=zB hv3;clear ho hb hg hat hne hv3)
    have hneB:some B≠(Value.slice A1 xs.length c1).ownBlock:=fun he=>by have:=RB.out.1 _ he.symm;have:=hBl.out;omega
    have Z2:=HBL.out.setCell (p:=⟨w.heap.size,0,none⟩) (by show w.heap.size≤w.heap.size;omega) (.slice A2 (xs.length+1) c2)
    refine⟨((KeepsOthers.of_grownBy HG.out (fun j o hj ho'=>HCE.out j o hj ho')).trans (KeepsOthers.setCell w3 ⟨w.heap.size,0,none⟩ (.slice A2 (xs.length+1) c2))).from _,⟨Z2.mono HW.out.size,fun o ho=>(Below.heap_setCell w3 ⟨w.heap.size,0,none⟩ (.slice A2 (xs.length+1) c2) B (by have:=hBl.out;show B≠w.heap.size;omega)).trans (blk_grown ho HG.out hneB)⟩,⟨_,HV.out.set (.slice A2 (xs.length+1) c2),?_⟩,Nat.le_trans SB.out (Nat.le_trans HBL.out.size (KeepsWalks.setCell _ _ _).size),BB.out.trans Z2⟩
    rw[MP.out]
    exact Kd.R_far HO.out (p:=⟨w.heap.size,0,none⟩) (fun k hk=>by show k≠w.heap.size;omega) (.slice A2 (xs.length+1) c2)
end
def cmp_Or_int.l0:Nat→Int→List Int→Int→Int→Option (Int)
 |0,_,_,_,_=>none
 |k+1,x3,x6,x7,x8=>if x8<x7 then(if 0≤x8 then(if x8<(x6.length:Int) then(if(rd x6 x8)=x3 then(cmp_Or_int.l0 k x3 x6 x7 (wrap64 (x8+1))) else(some (rd x6 x8))) else(none)) else(none)) else(some x3)
def cmp_Or_int.f (k:Nat) (l0:List Int):Option (Int):=cmp_Or_int.l0 k 0 l0 (l0.length:Int) 0
theorem cmp_Or_int.mono_l: ∀k,(∀y0 y1 y2 y3,LeO (cmp_Or_int.l0 k y0 y1 y2 y3) (cmp_Or_int.l0 (k+1) y0 y1 y2 y3))
 |0=>fun _ _ _ _ r h=>by simp[cmp_Or_int.l0] at h
 |k+1=>by
  have ih0:=cmp_Or_int.mono_l k
  ·intro y0 y1 y2 y3
   unfold cmp_Or_int.l0
   repeat' first
   |(with_reducible exact ih0 _ _ _ _)
   |(with_reducible exact LeO.refl _)
   |(with_reducible exact zf _)
   |(with_reducible refine zg ?_ ?_)
   |(with_reducible refine ze ?_ (fun _=>?_))
theorem cmp_Or_int.mono: ∀a0 k,LeO (cmp_Or_int.f k a0) (cmp_Or_int.f (k+1) a0):=by
 intro a0 k
 have ih0:=cmp_Or_int.mono_l k
 unfold cmp_Or_int.f
 repeat' first
   |(with_reducible exact ih0 _ _ _ _)
   |(with_reducible exact LeO.refl _)
   |(with_reducible exact zf _)
   |(with_reducible refine zg ?_ ?_)
   |(with_reducible refine ze ?_ (fun _=>?_))
set_option maxHeartbeats 8000000 in
set_option maxRecDepth 100000 in
theorem cmp_Or_int.calls (k:Nat) (A0:Option Addr) (c0:Nat) (l0:List Int) (r:Int) (w:World) (hr0:Kd.C (Kd.int .i64) w A0 l0.length l0) (hc0:l0.length≤c0) (h:cmp_Or_int.f k l0=some r):
  Calls Try.prog 72 #[.slice A0 l0.length c0] w fun e w'=>e=.returned (.int .i64 r)∧Drawn0 w w':=by
 have HR0:=zB hr0
 have HC0:=zB hc0
 clear hr0 hc0
 have H:(cmp_Or_int.l0 k 0 l0 (l0.length:Int) 0)=some r:=h
 clear h
 have H':=zB H
 clear H
 go_enter Try.func72,Try.ntmps72
 go_wp2
 go_loopg [8] k (fun kq v8 w'=> ∃(x8_1:Int),v8=.int .i64 x8_1∧Aside0 (cmp_Or_int.l0 kq 0 l0 (l0.length:Int) x8_1=some r)∧Aside0 (kq≤k)∧Drawn0 w w')
 case atStart=>exact⟨(0),rs_,H',⟨za _⟩,dr_⟩
 case round=>
  clear H'
  obtain⟨x8_1,rfl,HA,HK1,⟨m1,rfl⟩⟩:=hrel
  cases gk with
  |zero=>exact absurd HA.out (by simp[cmp_Or_int.l0])
  |succ k1=>
   have H:=HA.out
   clear HA
   simp only[cmp_Or_int.l0] at H
   by_cases c2:x8_1<(l0.length:Int)
   ·rw[if_pos c2] at H
    have c2b0:=zO c2
    clear c2
    obtain⟨c3,H⟩:=gd_ H
    have c3b0:=zO c3
    clear c3
    obtain⟨c4,H⟩:=gd_ H
    have c4b0:=zO c4
    clear c4
    by_cases c5:(rd l0 x8_1)=0
    ·rw[if_pos c5] at H
     have c5b0:=beq_iff_eq.mpr c5
     have c5b1:=bne_eq_false_iff_eq.mpr c5
     clear c5
     have H':=zB H
     clear H
     have p178:0≤(x8_1:Int):=zJ as_
     have q178:x8_1<(l0.length:Int):=zJ as_
     obtain⟨ad178,e178,hx178_0⟩:=Kd.at_int HR0.out x8_1 p178 q178
     cases e178
     replace p178:=eq_true p178
     replace q178:=eq_true q178
     go_wp2
     go_roundg k1
     case measure=>have:=HK1.out;omega
     case rel=>exact⟨(wrap64 (x8_1+1)),rs_,H',⟨za_ HK1⟩,dr_⟩
    ·rw[if_neg c5] at H
     have c5b0:=beq_eq_false_iff_ne.mpr c5
     have c5b1:=bne_iff_ne.mpr c5
     obtain rfl:=zW H
     have p178:0≤(x8_1:Int):=zJ as_
     have q178:x8_1<(l0.length:Int):=zJ as_
     obtain⟨ad178,e178,hx178_0⟩:=Kd.at_int HR0.out x8_1 p178 q178
     cases e178
     replace p178:=eq_true p178
     replace q178:=eq_true q178
     go_wp2
     go_ret
     exact⟨rs_,dr_⟩
   ·rw[if_neg c2] at H
    have c2b0:=zY c2
    clear c2
    obtain rfl:=zW H
    go_wp2
    go_ret
    exact⟨rs_,dr_⟩
def cmp_isNaN_int.f (a0:Int):Option (Bool):=some (a0 !=a0)
set_option maxHeartbeats 8000000 in
set_option maxRecDepth 100000 in
theorem cmp_isNaN_int.calls (a0:Int) (r:Bool) (w:World) (h:cmp_isNaN_int.f a0=some r):
  Calls Try.prog 92 #[.int .i64 a0] w fun e w'=>e=.returned (.bool r)∧Drawn0 w w':=by
 have H:(some (a0 !=a0))=some r:=h
 clear h
 obtain rfl:=zW H
 go_enter Try.func92,Try.ntmps92
 go_wp2
 go_ret
 exact⟨rs_,dr_⟩
def cmp_Compare_int.f (a0:Int) (a1:Int):Option (Int):=(cmp_isNaN_int.f a0).bind fun t179=>((cmp_isNaN_int.f a1).bind fun t180=>(if t179=true then(if t180=true then(some 0) else(some (-1))) else(if t180=true then(some 1) else(if a0<a1 then(some (-1)) else(if a0>a1 then(some 1) else(some 0))))))
set_option maxHeartbeats 8000000 in
set_option maxRecDepth 100000 in
theorem cmp_Compare_int.calls (a0:Int) (a1:Int) (r:Int) (w:World) (h:cmp_Compare_int.f a0 a1=some r):
  Calls Try.prog 73 #[.int .i64 a0,.int .i64 a1] w fun e w'=>e=.returned (.int .i64 r)∧Drawn0 w w':=by
 have H:((cmp_isNaN_int.f a0).bind fun t179=>((cmp_isNaN_int.f a1).bind fun t180=>(if t179=true then(if t180=true then(some 0) else(some (-1))) else(if t180=true then(some 1) else(if a0<a1 then(some (-1)) else(if a0>a1 then(some 1) else(some 0)))))))=some r:=h
 clear h
 replace H:=zL H
 obtain⟨t179,A30,H⟩:=H
 try dsimp only at H
 have A3:=zB A30
 clear A30
 replace H:=zL H
 obtain⟨t180,A40,H⟩:=H
 try dsimp only at H
 have A4:=zB A40
 clear A40
 by_cases c5:t179=true
 ·subst c5
  rw[if_pos rfl] at H;try dsimp only at H
  by_cases c6:t180=true
  ·subst c6
   rw[if_pos rfl] at H;try dsimp only at H
   obtain rfl:=zW H
   go_enter Try.func73,Try.ntmps73
   go_wp2_with (first|((with_reducible refine gate_callee (f:=92) rfl ?_);refine gl_ (some 8) Try.func92 #[.int .i64 a0] rfl ?_;(with_reducible refine(cmp_isNaN_int.calls a0 true _ A3.out).mono ?_);(try clear A3);rintro e w' ⟨rfl,⟨nd,rfl⟩⟩;refine⟨_,rfl,?_⟩)|((with_reducible refine gate_callee (f:=92) rfl ?_);refine gl_ (some 10) Try.func92 #[.int .i64 a1] rfl ?_;(with_reducible refine(cmp_isNaN_int.calls a1 true _ A4.out).mono ?_);(try clear A4);rintro e w' ⟨rfl,⟨nd,rfl⟩⟩;refine⟨_,rfl,?_⟩))
   go_ret
   exact⟨rs_,dr_⟩
  ·replace c6:=zb c6
   subst c6
   rw[if_neg (show ¬(false=true) by decide)] at H;try dsimp only at H
   obtain rfl:=zW H
   go_enter Try.func73,Try.ntmps73
   go_wp2_with (first|((with_reducible refine gate_callee (f:=92) rfl ?_);refine gl_ (some 8) Try.func92 #[.int .i64 a0] rfl ?_;(with_reducible refine(cmp_isNaN_int.calls a0 true _ A3.out).mono ?_);(try clear A3);rintro e w' ⟨rfl,⟨nd,rfl⟩⟩;refine⟨_,rfl,?_⟩)|((with_reducible refine gate_callee (f:=92) rfl ?_);refine gl_ (some 10) Try.func92 #[.int .i64 a1] rfl ?_;(with_reducible refine(cmp_isNaN_int.calls a1 false _ A4.out).mono ?_);(try clear A4);rintro e w' ⟨rfl,⟨nd,rfl⟩⟩;refine⟨_,rfl,?_⟩))
   go_ret
   exact⟨rs_,dr_⟩
 ·replace c5:=zb c5
  subst c5
  rw[if_neg (show ¬(false=true) by decide)] at H;try dsimp only at H
  by_cases c7:t180=true
  ·subst c7
   rw[if_pos rfl] at H;try dsimp only at H
   obtain rfl:=zW H
   go_enter Try.func73,Try.ntmps73
   go_wp2_with (first|((with_reducible refine gate_callee (f:=92) rfl ?_);refine gl_ (some 8) Try.func92 #[.int .i64 a0] rfl ?_;(with_reducible refine(cmp_isNaN_int.calls a0 false _ A3.out).mono ?_);(try clear A3);rintro e w' ⟨rfl,⟨nd,rfl⟩⟩;refine⟨_,rfl,?_⟩)|((with_reducible refine gate_callee (f:=92) rfl ?_);refine gl_ (some 10) Try.func92 #[.int .i64 a1] rfl ?_;(with_reducible refine(cmp_isNaN_int.calls a1 true _ A4.out).mono ?_);(try clear A4);rintro e w' ⟨rfl,⟨nd,rfl⟩⟩;refine⟨_,rfl,?_⟩))
   go_ret
   exact⟨rs_,dr_⟩
  ·replace c7:=zb c7
   subst c7
   rw[if_neg (show ¬(false=true) by decide)] at H;try dsimp only at H
   by_cases c8:a0<a1
   ·rw[if_pos c8] at H
    have c8b0:=zO c8
    clear c8
    obtain rfl:=zW H
    go_enter Try.func73,Try.ntmps73
    go_wp2_with (first|((with_reducible refine gate_callee (f:=92) rfl ?_);refine gl_ (some 8) Try.func92 #[.int .i64 a0] rfl ?_;(with_reducible refine(cmp_isNaN_int.calls a0 false _ A3.out).mono ?_);(try clear A3);rintro e w' ⟨rfl,⟨nd,rfl⟩⟩;refine⟨_,rfl,?_⟩)|((with_reducible refine gate_callee (f:=92) rfl ?_);refine gl_ (some 10) Try.func92 #[.int .i64 a1] rfl ?_;(with_reducible refine(cmp_isNaN_int.calls a1 false _ A4.out).mono ?_);(try clear A4);rintro e w' ⟨rfl,⟨nd,rfl⟩⟩;refine⟨_,rfl,?_⟩))
    go_ret
    exact⟨rs_,dr_⟩
   ·rw[if_neg c8] at H
    have c8b0:=zY c8
    clear c8
    by_cases c9:a0>a1
    ·rw[if_pos c9] at H
     have c9b0:=zO c9
     clear c9
     obtain rfl:=zW H
     go_enter Try.func73,Try.ntmps73
     go_wp2_with (first|((with_reducible refine gate_callee (f:=92) rfl ?_);refine gl_ (some 8) Try.func92 #[.int .i64 a0] rfl ?_;(with_reducible refine(cmp_isNaN_int.calls a0 false _ A3.out).mono ?_);(try clear A3);rintro e w' ⟨rfl,⟨nd,rfl⟩⟩;refine⟨_,rfl,?_⟩)|((with_reducible refine gate_callee (f:=92) rfl ?_);refine gl_ (some 10) Try.func92 #[.int .i64 a1] rfl ?_;(with_reducible refine(cmp_isNaN_int.calls a1 false _ A4.out).mono ?_);(try clear A4);rintro e w' ⟨rfl,⟨nd,rfl⟩⟩;refine⟨_,rfl,?_⟩))
     go_ret
     exact⟨rs_,dr_⟩
    ·rw[if_neg c9] at H
     have c9b0:=zY c9
     clear c9
     obtain rfl:=zW H
     go_enter Try.func73,Try.ntmps73
     go_wp2_with (first|((with_reducible refine gate_callee (f:=92) rfl ?_);refine gl_ (some 8) Try.func92 #[.int .i64 a0] rfl ?_;(with_reducible refine(cmp_isNaN_int.calls a0 false _ A3.out).mono ?_);(try clear A3);rintro e w' ⟨rfl,⟨nd,rfl⟩⟩;refine⟨_,rfl,?_⟩)|((with_reducible refine gate_callee (f:=92) rfl ?_);refine gl_ (some 10) Try.func92 #[.int .i64 a1] rfl ?_;(with_reducible refine(cmp_isNaN_int.calls a1 false _ A4.out).mono ?_);(try clear A4);rintro e w' ⟨rfl,⟨nd,rfl⟩⟩;refine⟨_,rfl,?_⟩))
     go_ret
     exact⟨rs_,dr_⟩
def due_by.f (a0_0:Int) (a0_1:Int) (a1_0:Int) (a1_1:Int):Option (Int):=(spot_Less.f a0_0 a0_1 a1_0 a1_1).bind fun t183=>(if t183=true then(some (-1)) else((spot_Less.f a1_0 a1_1 a0_0 a0_1).bind fun t184=>(if t184=true then(some 1) else(some 0))))
set_option maxHeartbeats 8000000 in
set_option maxRecDepth 100000 in
theorem due_by.calls (a0_0:Int) (a0_1:Int) (a1_0:Int) (a1_1:Int) (r:Int) (w:World) (h:due_by.f a0_0 a0_1 a1_0 a1_1=some r):
  Calls Try.prog 74 #[.agg #[.int .i64 a0_0,.int .i64 a0_1],.agg #[.int .i64 a1_0,.int .i64 a1_1]] w fun e w'=>e=.returned (.int .i64 r)∧Below w.heap.size w w':=by
 have hu26:=Try.underlying26
 have HB:=zB (Below.refl w.heap.size w)
 have H:((spot_Less.f a0_0 a0_1 a1_0 a1_1).bind fun t183=>(if t183=true then(some (-1)) else((spot_Less.f a1_0 a1_1 a0_0 a0_1).bind fun t184=>(if t184=true then(some 1) else(some 0)))))=some r:=h
 clear h
 replace H:=zL H
 obtain⟨t183,A30,H⟩:=H
 try dsimp only at H
 have A3:=zB A30
 clear A30
 by_cases c4:t183=true
 ·subst c4
  rw[if_pos rfl] at H;try dsimp only at H
  obtain rfl:=zW H
  go_enter Try.func74,Try.ntmps74
  go_wp2_with (first|((with_reducible refine gate_dst (N:=2) rfl ?_);refine be_ (N:=2) (cs:=#[.int .i64 a0_0,.int .i64 a0_1]) (t:=26) ?_;intro gb181 hg w5 hbox hb;have BK181:=zB hbox;have GW181:=gw_ hg HB;have GE181:=GW181;replace HB:=zB (zQ HB.out hb);clear hb hbox hg)|((with_reducible refine gate_dst (N:=3) rfl ?_);refine be_ (N:=3) (cs:=#[.int .i64 a1_0,.int .i64 a1_1]) (t:=26) ?_;intro gb182 hg w6 hbox hb;have BK182:=zB hbox;have GE182:=gx_ hg (show Below w.heap.size w _ from hb_ HB);have GW182:=GE182;replace HB:=zB (zQ (hb_ HB) hb);have NB181_182:=nb_ BK181 hg;have NB182_181:=nc_ BK181 hg;replace BK181:=bl_ BK181 hb;clear hb hbox hg;have hnb7:=NB181_182.out;have hnc7:=NB182_181.out;have hcz8:=zD BK181.out;have hfz8:=zC BK181.out;have hcz9:=zD BK182.out)|((with_reducible refine gate_callee (f:=84) rfl ?_);refine gl_ (some 8) Try.func84 #[.agg #[.int .i64 a0_0,.int .i64 a0_1],.agg #[.int .i64 a1_0,.int .i64 a1_1]] rfl ?_;(with_reducible refine(spot_Less.calls a0_0 a0_1 a1_0 a1_1 true _ A3.out).mono ?_);rintro e w10 ⟨rfl,hb⟩;refine⟨_,rfl,?_⟩;replace BK181:=bl_ BK181 hb;replace BK182:=bl_ BK182 hb;replace HB:=zB (zQ (hb_ HB) hb);(try clear hb);(try clear hb2);(try clear hk);(try clear hi)))
  go_ret
  exact⟨ew_,hb_ HB⟩
 ·replace c4:=zb c4
  subst c4
  rw[if_neg (show ¬(false=true) by decide)] at H;try dsimp only at H
  replace H:=zL H
  obtain⟨t184,A110,H⟩:=H
  try dsimp only at H
  have A11:=zB A110
  clear A110
  by_cases c12:t184=true
  ·subst c12
   rw[if_pos rfl] at H;try dsimp only at H
   obtain rfl:=zW H
   go_enter Try.func74,Try.ntmps74
   go_wp2_with (first|((with_reducible refine gate_dst (N:=2) rfl ?_);refine be_ (N:=2) (cs:=#[.int .i64 a0_0,.int .i64 a0_1]) (t:=26) ?_;intro gb181 hg w13 hbox hb;have BK181:=zB hbox;have GW181:=gw_ hg HB;have GE181:=GW181;replace HB:=zB (zQ HB.out hb);clear hb hbox hg)|((with_reducible refine gate_dst (N:=3) rfl ?_);refine be_ (N:=3) (cs:=#[.int .i64 a1_0,.int .i64 a1_1]) (t:=26) ?_;intro gb182 hg w14 hbox hb;have BK182:=zB hbox;have GE182:=gx_ hg (show Below w.heap.size w _ from hb_ HB);have GW182:=GE182;replace HB:=zB (zQ (hb_ HB) hb);have NB181_182:=nb_ BK181 hg;have NB182_181:=nc_ BK181 hg;replace BK181:=bl_ BK181 hb;clear hb hbox hg;have hnb15:=NB181_182.out;have hnc15:=NB182_181.out;have hcz16:=zD BK181.out;have hfz16:=zC BK181.out;have hcz17:=zD BK182.out)|((with_reducible refine gate_callee (f:=84) rfl ?_);refine gl_ (some 8) Try.func84 #[.agg #[.int .i64 a0_0,.int .i64 a0_1],.agg #[.int .i64 a1_0,.int .i64 a1_1]] rfl ?_;(with_reducible refine(spot_Less.calls a0_0 a0_1 a1_0 a1_1 false _ A3.out).mono ?_);(try clear A3);rintro e w18 ⟨rfl,hb⟩;refine⟨_,rfl,?_⟩;replace BK181:=bl_ BK181 hb;replace BK182:=bl_ BK182 hb;replace HB:=zB (zQ (hb_ HB) hb);(try clear hb);(try clear hb2);(try clear hk);(try clear hi);have hcz19:=zD BK182.out;have hcz20:=zD BK181.out;have hfz20:=zC BK181.out)|((with_reducible refine gate_callee (f:=84) rfl ?_);refine gl_ (some 12) Try.func84 #[.agg #[.int .i64 a1_0,.int .i64 a1_1],.agg #[.int .i64 a0_0,.int .i64 a0_1]] rfl ?_;(with_reducible refine(spot_Less.calls a1_0 a1_1 a0_0 a0_1 true _ A11.out).mono ?_);(try clear A11);rintro e w21 ⟨rfl,hb⟩;refine⟨_,rfl,?_⟩;replace BK181:=bl_ BK181 hb;replace BK182:=bl_ BK182 hb;replace HB:=zB (zQ (hb_ HB) hb);(try clear hb);(try clear hb2);(try clear hk);(try clear hi)))
   go_ret
   exact⟨ew_,hb_ HB⟩
  ·replace c12:=zb c12
   subst c12
   rw[if_neg (show ¬(false=true) by decide)] at H;try dsimp only at H
   obtain rfl:=zW H
   go_enter Try.func74,Try.ntmps74
   go_wp2_with (first|((with_reducible refine gate_dst (N:=2) rfl ?_);refine be_ (N:=2) (cs:=#[.int .i64 a0_0,.int .i64 a0_1]) (t:=26) ?_;intro gb181 hg w22 hbox hb;have BK181:=zB hbox;have GW181:=gw_ hg HB;have GE181:=GW181;replace HB:=zB (zQ HB.out hb);clear hb hbox hg)|((with_reducible refine gate_dst (N:=3) rfl ?_);refine be_ (N:=3) (cs:=#[.int .i64 a1_0,.int .i64 a1_1]) (t:=26) ?_;intro gb182 hg w23 hbox hb;have BK182:=zB hbox;have GE182:=gx_ hg (show Below w.heap.size w _ from hb_ HB);have GW182:=GE182;replace HB:=zB (zQ (hb_ HB) hb);have NB181_182:=nb_ BK181 hg;have NB182_181:=nc_ BK181 hg;replace BK181:=bl_ BK181 hb;clear hb hbox hg;have hnb24:=NB181_182.out;have hnc24:=NB182_181.out;have hcz25:=zD BK181.out;have hfz25:=zC BK181.out;have hcz26:=zD BK182.out)|((with_reducible refine gate_callee (f:=84) rfl ?_);refine gl_ (some 8) Try.func84 #[.agg #[.int .i64 a0_0,.int .i64 a0_1],.agg #[.int .i64 a1_0,.int .i64 a1_1]] rfl ?_;(with_reducible refine(spot_Less.calls a0_0 a0_1 a1_0 a1_1 false _ A3.out).mono ?_);(try clear A3);rintro e w27 ⟨rfl,hb⟩;refine⟨_,rfl,?_⟩;replace BK181:=bl_ BK181 hb;replace BK182:=bl_ BK182 hb;replace HB:=zB (zQ (hb_ HB) hb);(try clear hb);(try clear hb2);(try clear hk);(try clear hi);have hcz28:=zD BK182.out;have hcz29:=zD BK181.out;have hfz29:=zC BK181.out)|((with_reducible refine gate_callee (f:=84) rfl ?_);refine gl_ (some 12) Try.func84 #[.agg #[.int .i64 a1_0,.int .i64 a1_1],.agg #[.int .i64 a0_0,.int .i64 a0_1]] rfl ?_;(with_reducible refine(spot_Less.calls a1_0 a1_1 a0_0 a0_1 false _ A11.out).mono ?_);(try clear A11);rintro e w30 ⟨rfl,hb⟩;refine⟨_,rfl,?_⟩;replace BK181:=bl_ BK181 hb;replace BK182:=bl_ BK182 hb;replace HB:=zB (zQ (hb_ HB) hb);(try clear hb);(try clear hb2);(try clear hk);(try clear hi)))
   go_ret
   exact⟨ew_,hb_ HB⟩
end Go.Proofs.Ytcfpbmdndapeaaa.F
