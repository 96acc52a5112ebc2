-- Written by a program of this session (xprint.py), out of the translation and of contracts proved by hand.
import Derived.Test.YtcfpbmdndapeaaaF0
namespace Go.Proofs.Ytcfpbmdndapeaaa.F
open Go.RowKit Go.Proofs.YtcfpbmdndapeaaaV.PrintWords Go.Proofs.YtcfpbmdndapeaaaV.PrintLast Go.Proofs.YtcfpbmdndapeaaaV.PrintMore
attribute [local go_sem] max2_int min2_int max_two min_two max_three min_three max_four min_four
set_option linter.unusedVariables false
set_option linter.unusedSimpArgs false
def watchmanlaw09_far.f (a0_0:Int) (a0_1:Int) (l0_2:List (S28)):Option (Bool):=some (decide ((l0_2.length:Int)>60))
set_option maxHeartbeats 8000000 in
set_option maxRecDepth 100000 in
theorem watchmanlaw09_far.calls (a0_0:Int) (a0_1:Int) (A0_2:Option Addr) (c0_2:Nat) (l0_2:List (S28)) (r:Bool) (w:World) (hr0_2:Kd.C k28 w A0_2 l0_2.length l0_2) (hc0_2:l0_2.length≤c0_2) (h:watchmanlaw09_far.f a0_0 a0_1 l0_2=some r):
  Calls Try.prog 35 #[.agg #[.int .i64 a0_0,.int .i64 a0_1,.slice A0_2 l0_2.length c0_2]] w fun e w'=>e=.returned (.bool r)∧Below w.heap.size w w':=by
 have hu24:=Try.underlying24
 have HR0_2:=zB hr0_2
 have HC0_2:=zB hc0_2
 clear hr0_2 hc0_2
 have HB:=zB (Below.refl w.heap.size w)
 have H:(some (decide ((l0_2.length:Int)>60)))=some r:=h
 clear h
 obtain rfl:=zW H
 go_enter Try.func35,Try.ntmps35
 go_wp2_with (first|((with_reducible refine gate_dst (N:=1) rfl ?_);refine be_ (N:=1) (cs:=#[.int .i64 a0_0,.int .i64 a0_1,.slice A0_2 l0_2.length c0_2]) (t:=24) ?_;intro gb101 hg w2 hbox hb;have BK101:=zB hbox;have GW101:=gw_ hg HB;have GE101:=GW101;replace HB:=zB (zQ HB.out hb);clear hb hbox hg;have hcz3:=zD BK101.out;have hfz3:=zC BK101.out))
 go_ret
 exact⟨ew_,hb_ HB⟩
def watchmanref07_Own.f (l0:List (S28)):Option ((List (S28))):=if([]:List (S28)).length+l0.length<2932031007402 then(some (([]:List (S28))++l0)) else(none)
set_option maxHeartbeats 8000000 in
set_option maxRecDepth 100000 in
theorem watchmanref07_Own.calls (A0:Option Addr) (c0:Nat) (l0:List (S28)) (r:List (S28)) (w:World) (hr0:Kd.C k28 w A0 l0.length l0) (hc0:l0.length≤c0) (h:watchmanref07_Own.f l0=some r):
  Calls Try.prog 49 #[.slice A0 l0.length c0] w fun e w'=> ∃v0_:Value,e=.returned (v0_)∧Kd.R k28 28 w' w.heap.size (fun _=>True) v0_ r∧Below w.heap.size w w':=by
 have HR0:=zB hr0
 have HC0:=zB hc0
 clear hr0 hc0
 have HB:=zB (Below.refl w.heap.size w)
 have H:(if([]:List (S28)).length+l0.length<2932031007402 then(some (([]:List (S28))++l0)) else(none))=some r:=h
 clear h
 obtain⟨c2,H⟩:=gd_ H
 have LMc2:=zB c2
 clear c2
 obtain⟨y102,hy102⟩: ∃y_:List (S28),y_=(([]:List (S28))++l0):=⟨_,rfl⟩
 replace H:(some y102)=some r:=by first|(rw[hy102];with_reducible exact H)|(have H2_:=(Option.bind_some _ _).symm.trans H;rw[hy102];with_reducible exact H2_)|(have H2_:=(Option.bind_some _ _).symm.trans H;with_reducible exact H2_)|with_reducible exact H|(rw[hy102];exact H)|exact H
 have Ny102:=zB hy102
 clear hy102
 obtain rfl:=zW H
 go_enter Try.func49,Try.ntmps49
 go_wp2_with (first|((with_reducible refine gate_builtin (b:=.append) (xs:=#[.tmp 4,.tmp 5]) rfl ?_);at_builtin;refine Kd.R_append_rows k28 (w0:=w) w.heap.size rfl (.tmp 4) (.tmp 5) 22 28 (.agg #[(.int .i64 0),(.int .i64 0),(.int .i64 0),(.int .i64 0),(.int .i64 0),(.int .i64 0)]) 48 rfl Try.underlying22 info28 rfl (by decide) (by omega) (.slice none 0 0) ([]:List (S28)) l0 _ _ _ (fun _=>True) (fun _=>False) rfl rfl ?aO ?aR (fun _ _ h=>h) (fun _ h=>h.elim) ?aF ?aB ?aS ?aL ?_;(case aR=>repeat(first|exact HR0.out|(with_reducible refine Kd.C_alloc ?_ _)|(with_reducible refine Kd.C_drewN ?_ _)|(with_reducible refine Kd.C_drew ?_)));(case aB=>exact HB.out);(case aF=>exact(fun _ _=>trivial));(case aO=>exact((Kd.R_nil _ _ _ _ (fun _=>True))));(case aS=>exact(zN HB.out));(case aL=>have:=LMc2.out;omega);intro v103 w3 ho hb hg hat;rw[←Ny102.out] at ho;replace HB:=zB (hb);have HO104:=zB (ho);clear ho hb hg hat))
 go_ret
 exact⟨_,ew_,by(with_reducible repeat(first|apply Kd.R_alloc|apply Kd.R_drewN|apply Kd.R_drew));exact HO104.out,hb_ HB⟩
def watchmanref08_Own.f (a0_0:Int) (a0_1:Int) (l0_2:List (S28)):Option (Int×Int×(List (S28))):=(watchmanref07_Own.f l0_2).bind fun t107=>(some (a0_0,a0_1,t107))
def watchmanref08_Own.T1:Bool×List (List Nat×List Nat):=(true,[([],[]),([0],[0]),([],[]),([2],[2]),([],[]),([4],[4]),([5],[5]),([1,3,6],[1,3,6]),([7,6,0,1,2,3,4,5,6,7],[7])])
def watchmanref08_Own.B1:List Nat:=[0,1,0,4,0,16,48,127,255]
theorem watchmanref08_Own.tab1:rtab .any (opsOf Try.f14 1)=watchmanref08_Own.T1:=by kernel_rfl
theorem watchmanref08_Own.bits1:waitsOk watchmanref08_Own.T1.2 watchmanref08_Own.B1=true:=by kernel_rfl
set_option maxHeartbeats 8000000 in
set_option maxRecDepth 100000 in
theorem watchmanref08_Own.calls (a0_0:Int) (a0_1:Int) (A0_2:Option Addr) (c0_2:Nat) (l0_2:List (S28)) (r1:Int) (r2:Int) (r3:List (S28)) (w:World) (hr0_2:Kd.C k28 w A0_2 l0_2.length l0_2) (hc0_2:l0_2.length≤c0_2) (h:watchmanref08_Own.f a0_0 a0_1 l0_2=some (r1,r2,r3)):
  Calls Try.prog 14 #[.agg #[.int .i64 a0_0,.int .i64 a0_1,.slice A0_2 l0_2.length c0_2]] w fun e w'=> ∃v2_:Value,e=.returned (.agg #[.int .i64 r1,.int .i64 r2,v2_])∧Kd.R k28 28 w' w.heap.size (fun _=>True) v2_ r3∧Below w.heap.size w w':=by
 have hu24:=Try.underlying24
 have HR0_2:=zB hr0_2
 have HC0_2:=zB hc0_2
 clear hr0_2 hc0_2
 have HB:=zB (Below.refl w.heap.size w)
 have H:((watchmanref07_Own.f l0_2).bind fun t107=>(some (a0_0,a0_1,t107)))=some (r1,r2,r3):=h
 clear h
 replace H:=zL H
 obtain⟨t107,A20,H⟩:=H
 try dsimp only at H
 have A2:=zB A20
 clear A20
 simp only[zc,Prod.mk.injEq] at H
 obtain⟨rfl,rfl,rfl⟩:=H
 go_enter Try.func14,Try.ntmps14
 try go_wp2_with (first|((with_reducible refine gate_dst (N:=1) rfl ?_);refine be_ (N:=1) (cs:=#[.int .i64 a0_0,.int .i64 a0_1,.slice A0_2 l0_2.length c0_2]) (t:=24) ?_;intro gb105 hg w3 hbox hb;have BK105:=zB hbox;have GW105:=gw_ hg HB;have GE105:=GW105;replace HB:=zB (zQ HB.out hb);clear hb hbox hg)|((with_reducible refine gate_dst (N:=2) rfl ?_);refine be_ (N:=2) (cs:=#[.int .i64 0,.int .i64 0,.slice none 0 0]) (t:=24) ?_;intro gb106 hg w4 hbox hb;have BK106:=zB hbox;have GE106:=gx_ hg (show Below w.heap.size w _ from hb_ HB);have GW106:=GE106;replace HB:=zB (zQ (hb_ HB) hb);have NB105_106:=nb_ BK105 hg;have NB106_105:=nc_ BK105 hg;replace BK105:=bl_ BK105 hb;clear hb hbox hg))
 replace BK105:=zB (zX BK105.out)
 replace BK106:=zB (zX BK106.out)
 replace HB:=zB (zG HB.out)
 refine start_ (n:=9) (S:=fun w'=>c_ w' gb105 0 (.int .i64 a0_0)∧c_ w' gb105 1 (.int .i64 a0_1)∧c_ w' gb105 2 (.slice A0_2 l0_2.length c0_2)) (ds:=[]) (bt_ 0 9) (by kernel_rfl) rfl rfl ⟨bc_ BK105 0,bc_ BK105 1,bc_ BK105 2⟩ (fun hHeld=>?_);refine with_tabW watchmanref08_Own.tab1 watchmanref08_Own.bits1 (fun HT_ HW_=>?_)
 generalize w4.drew=w5 at BK105 BK106 HB hHeld⊢
 have Q_:=Qs.mk (n:=9) [(0,0,3,1),(0,2,5,5),(0,4,7,21),(2,1,4,23),(2,3,6,31),(2,5,8,63)]
 iterate 6 (first|(refine pq_ Q_ ?_;replace Q_:=qt_ Q_)|(refine tq_ Q_ hHeld ?_;replace Q_:=qt_ Q_))
 clear Q_
 refine one_ (i:=6) (N:=some 9) (dn_ 7 9) rfl rfl (one_of HT_.out (by kernel_rfl)) (by decide) (fun K hK=>?_)
 refine gs_ Try.func49 #[.slice A0_2 l0_2.length c0_2] rfl ?_
 with_reducible refine(watchmanref07_Own.calls _ _ l0_2 t107 _ ?side1 ?side2 A2.out).mono ?_
 (case side1=>exact(Kd.C_below HR0_2.out HB.out))
 (case side2=>exact HC0_2.out)
 rintro e w6 ⟨v108,rfl,ho0,hb⟩
 refine⟨_,rfl,?_⟩
 have HO109:=zB (Kd.R_lower ho0 (zN (hb_ HB)))
 replace BK105:=bl_ BK105 hb
 replace BK106:=bl_ BK106 hb
 replace HB:=zB (zQ (hb_ HB) hb)
 (try clear hb)
 (try clear hb2)
 (try clear hk)
 (try clear hi)
 (try clear ho0)
 obtain⟨Ao7,co7,eo7⟩:=Kd.R_slice HO109.out
 (first|subst eo7|(injection eo7 with f1_ f2_ f3_;have f4_:=f1_.symm;have f5_:=f3_.symm;clear f1_ f2_ f3_;subst f4_;subst f5_))
 refine hK.out _ _ ⟨bc_ BK105 0,bc_ BK105 1,bc_ BK105 2⟩ (fun hHeld=>?_)
 clear hK K
 refine norm_ (a':=?_) ?_ ?_
 rotate_left
 ·show Act.put _ (some 9) _=_
  simp only[Act.put,zE,zH,zI,i64_w,i32_w]
  rfl
 refine pure_ (i:=7) (N:=some 10) (v:=?_) (a':=?_) (dn_ 8 9) rfl rfl (any_of HT_.out (by kernel_rfl)) (fun _ _ _ h=>h) (Or.inl ⟨by rfl,?_⟩) ?_ ?_
 rotate_left
 ·intro w'
  go_simp
  with_reducible rfl
 rotate_left;(simp only[Act.put,zE,zH,zI,i64_w,i32_w];rfl)
 refine one_ (i:=8) (N:=none) (bt_ 511 9) rfl rfl (one_of HT_.out (by kernel_rfl)) (by decide) (fun K hK=>?_)
 have hs8:c_ w6 gb106 0 (.int .i64 0):=bc_ BK106 0
 have hfs8:=zC BK106.out 0
 have hns8_0:=NB105_106.out
 have hms8_0:=NB106_105.out
 have hs9:c_ w6 gb106 1 (.int .i64 0):=bc_ BK106 1
 have hfs9:=zC BK106.out 1
 have hns9_0:=NB105_106.out
 have hms9_0:=NB106_105.out
 have hs10:c_ w6 gb106 2 (.slice none 0 0):=bc_ BK106 2
 have hfs10:=zC BK106.out 2
 have hns10_0:=NB105_106.out
 have hms10_0:=NB106_105.out
 refine skip_ (w1:=?_) (by rfl) rfl ?_ ?_
 rotate_left
 ·go_simp
  rfl
 refine hK.out _ _ ⟨((cell_far (p:=⟨gb106,_,none⟩) NB105_106.out _).trans (((cell_far (p:=⟨gb106,_,none⟩) NB105_106.out _).trans (((cell_far (p:=⟨gb106,_,none⟩) NB105_106.out _).trans (hHeld.1)))))),((cell_far (p:=⟨gb106,_,none⟩) NB105_106.out _).trans (((cell_far (p:=⟨gb106,_,none⟩) NB105_106.out _).trans (((cell_far (p:=⟨gb106,_,none⟩) NB105_106.out _).trans (hHeld.2.1)))))),((cell_far (p:=⟨gb106,_,none⟩) NB105_106.out _).trans (((cell_far (p:=⟨gb106,_,none⟩) NB105_106.out _).trans (((cell_far (p:=⟨gb106,_,none⟩) NB105_106.out _).trans (hHeld.2.2))))))⟩ (fun hHeld=>?_)
 clear hK K
 refine done_ (done_of HT_.out (by kernel_rfl)) ?_
 try go_wp2
 refine bodyPost_ret (results_cell_row rfl _ _ gb106 24 #[.int .i64 a0_0,.int .i64 a0_1,.slice Ao7 t107.length co7] (0,0) _ rfl (by refine zZ (cs:=#[.int .i64 a0_0,.int .i64 a0_1,.slice none 0 0]) ?_ 2 _ rfl;refine zZ (cs:=#[.int .i64 a0_0,.int .i64 0,.slice none 0 0]) ?_ 1 _ rfl;refine zZ (cs:=#[.int .i64 0,.int .i64 0,.slice none 0 0]) ?_ 0 _ rfl;exact BK106.out) Try.underlying24 rfl (by kernel_rfl)) rfl ?_
 exact⟨_,ew_,by(with_reducible repeat(first|apply Kd.R_alloc|apply Kd.R_drewN|apply Kd.R_drew));exact Kd.R_mono (rf3 (Kd.R_types HO109.out BK106.out (by decide)) (fun _ hk=>hk.2) (.int .i64 a0_0) (.int .i64 a0_1) (.slice Ao7 t107.length co7)) (fun _ hk=>trivial),hb_ HB⟩
def watchmanref09_Own.f (l0:List (S65)):Option ((List (S65))):=if([]:List (S65)).length+l0.length<4398046511104 then(some (([]:List (S65))++l0)) else(none)
set_option maxHeartbeats 8000000 in
set_option maxRecDepth 100000 in
theorem watchmanref09_Own.calls (A0:Option Addr) (c0:Nat) (l0:List (S65)) (r:List (S65)) (w:World) (hr0:Kd.C k65 w A0 l0.length l0) (hc0:l0.length≤c0) (h:watchmanref09_Own.f l0=some r):
  Calls Try.prog 36 #[.slice A0 l0.length c0] w fun e w'=> ∃v0_:Value,e=.returned (v0_)∧Kd.R k65 65 w' w.heap.size (fun _=>True) v0_ r∧Below w.heap.size w w':=by
 have HR0:=zB hr0
 have HC0:=zB hc0
 clear hr0 hc0
 have HB:=zB (Below.refl w.heap.size w)
 have H:(if([]:List (S65)).length+l0.length<4398046511104 then(some (([]:List (S65))++l0)) else(none))=some r:=h
 clear h
 obtain⟨c2,H⟩:=gd_ H
 have LMc2:=zB c2
 clear c2
 obtain⟨y110,hy110⟩: ∃y_:List (S65),y_=(([]:List (S65))++l0):=⟨_,rfl⟩
 replace H:(some y110)=some r:=by first|(rw[hy110];with_reducible exact H)|(have H2_:=(Option.bind_some _ _).symm.trans H;rw[hy110];with_reducible exact H2_)|(have H2_:=(Option.bind_some _ _).symm.trans H;with_reducible exact H2_)|with_reducible exact H|(rw[hy110];exact H)|exact H
 have Ny110:=zB hy110
 clear hy110
 obtain rfl:=zW H
 go_enter Try.func36,Try.ntmps36
 go_wp2_with (first|((with_reducible refine gate_builtin (b:=.append) (xs:=#[.tmp 4,.tmp 5]) rfl ?_);at_builtin;refine Kd.R_append_rows k65 (w0:=w) w.heap.size rfl (.tmp 4) (.tmp 5) 53 65 (.agg #[(.int .i64 0),(.int .i64 0),(.int .i64 0),(.int .i64 0)]) 32 rfl Try.underlying53 info65 rfl (by decide) (by omega) (.slice none 0 0) ([]:List (S65)) l0 _ _ _ (fun _=>True) (fun _=>False) rfl rfl ?aO ?aR (fun _ _ h=>h) (fun _ h=>h.elim) ?aF ?aB ?aS ?aL ?_;(case aR=>repeat(first|exact HR0.out|(with_reducible refine Kd.C_alloc ?_ _)|(with_reducible refine Kd.C_drewN ?_ _)|(with_reducible refine Kd.C_drew ?_)));(case aB=>exact HB.out);(case aF=>exact(fun _ _=>trivial));(case aO=>exact((Kd.R_nil _ _ _ _ (fun _=>True))));(case aS=>exact(zN HB.out));(case aL=>have:=LMc2.out;omega);intro v111 w3 ho hb hg hat;rw[←Ny110.out] at ho;replace HB:=zB (hb);have HO112:=zB (ho);clear ho hb hg hat))
 go_ret
 exact⟨_,ew_,by(with_reducible repeat(first|apply Kd.R_alloc|apply Kd.R_drewN|apply Kd.R_drew));exact HO112.out,hb_ HB⟩
def board_open.f (a0_0:Int) (a0_1:Int) (l0_2:List (S28)):Option ((List (S28))×Int×Int×(List (S28))):=some (l0_2,a0_0,a0_1,l0_2)
set_option maxHeartbeats 8000000 in
set_option maxRecDepth 100000 in
theorem board_open.calls (a0_0:Int) (a0_1:Int) (P0_2_:Nat→Prop) (A0_2:Option Addr) (c0_2:Nat) (l0_2:List (S28)) (r1:List (S28)) (r2:Int) (r3:Int) (r4:List (S28)) (w:World) (hs0_2:Kd.V k28 28 w w.heap.size (fun k_=>P0_2_ k_) (.slice A0_2 l0_2.length c0_2) l0_2) (h:board_open.f a0_0 a0_1 l0_2=some (r1,r2,r3,r4)):
  Calls Try.prog 51 #[.agg #[.int .i64 a0_0,.int .i64 a0_1,.slice A0_2 l0_2.length c0_2]] w fun e w'=> ∃v0_ v3_:Value,e=.returned (.agg #[v0_,.int .i64 r2,.int .i64 r3,v3_])∧Kd.V k28 28 w' w.heap.size (fun k_=>(P0_2_ k_∨w.heap.size≤k_)) v0_ r1∧Kd.V k28 28 w' w.heap.size (fun k_=>(P0_2_ k_∨w.heap.size≤k_)) v3_ r4∧Below w.heap.size w w':=by
 have hu24:=Try.underlying24
 have hu72:=Try.underlying72
 have HO0_2:=zB (show Kd.V k28 28 w w.heap.size (fun k_=>(P0_2_ k_∨w.heap.size≤k_)) (.slice A0_2 l0_2.length c0_2) l0_2 from Kd.V_mono hs0_2 (fun k_ hk=> .inl hk))
 have HB:=zB (Below.refl w.heap.size w)
 have H:(some (l0_2,a0_0,a0_1,l0_2))=some (r1,r2,r3,r4):=h
 clear h
 simp only[zc,Prod.mk.injEq] at H
 obtain⟨rfl,rfl,rfl,rfl⟩:=H
 go_enter Try.func51,Try.ntmps51
 go_wp2_with (first|((with_reducible refine gate_dst (N:=1) rfl ?_);refine be_ (N:=1) (cs:=#[.int .i64 a0_0,.int .i64 a0_1,.slice A0_2 l0_2.length c0_2]) (t:=24) ?_;intro gb113 hg w2 hbox hb;replace HO0_2:=zB (Kd.V_below (Kd.V_elderB (HO0_2.out) gb113 (Nat.le_of_eq hg.symm)) hb);have BK113:=zB hbox;have GW113:=gw_ hg HB;have GE113:=GW113;replace HB:=zB (zQ HB.out hb);clear hb hbox hg)|((with_reducible refine gate_dst (N:=2) rfl ?_);refine be_ (N:=2) (cs:=#[.slice none 0 0,.int .i64 0,.int .i64 0,.slice none 0 0]) (t:=72) ?_;intro gb114 hg w3 hbox hb;replace HO0_2:=zB (Kd.V_below (Kd.V_elderB (HO0_2.out) gb114 (Nat.le_of_eq hg.symm)) hb);have BK114:=zB hbox;have GE114:=gx_ hg (show Below w.heap.size w _ from hb_ HB);have GW114:=GE114;replace HB:=zB (zQ (hb_ HB) hb);have NB113_114:=nb_ BK113 hg;have NB114_113:=nc_ BK113 hg;replace BK113:=bl_ BK113 hb;clear hb hbox hg;have hnb4:=NB113_114.out;have hnc4:=NB114_113.out;have hcz5:=zD BK113.out;have hfz5:=zC BK113.out;have hcz6:=zD BK114.out;have hfz6:=zC BK114.out))
 refine bodyPost_ret (results_cell_row rfl _ _ gb114 72 #[.slice A0_2 l0_2.length c0_2,.int .i64 a0_0,.int .i64 a0_1,.slice A0_2 l0_2.length c0_2] (0,0) _ rfl (by refine zZ (cs:=#[.slice A0_2 l0_2.length c0_2,.int .i64 a0_0,.int .i64 a0_1,.slice none 0 0]) ?_ 3 _ rfl;refine zZ (cs:=#[.slice A0_2 l0_2.length c0_2,.int .i64 a0_0,.int .i64 0,.slice none 0 0]) ?_ 2 _ rfl;refine zZ (cs:=#[.slice A0_2 l0_2.length c0_2,.int .i64 0,.int .i64 0,.slice none 0 0]) ?_ 1 _ rfl;refine zZ (cs:=#[.slice none 0 0,.int .i64 0,.int .i64 0,.slice none 0 0]) ?_ 0 _ rfl;exact BK114.out) Try.underlying72 rfl (by kernel_rfl)) rfl ?_
 exact⟨_,_,ew_,by(with_reducible repeat(first|apply Kd.V_alloc|apply Kd.V_drewN|apply Kd.V_drew));exact Kd.V_mono (Kd.V_far (p:=⟨gb114,3,none⟩) (Kd.V_far (p:=⟨gb114,2,none⟩) (Kd.V_far (p:=⟨gb114,1,none⟩) (Kd.V_far (p:=⟨gb114,0,none⟩) (Kd.V_mono HO0_2.out (fun k_ hk=>(⟨hk,hk.2⟩:_∧k_≠gb114))) (fun _ hk=>hk.2) (.slice A0_2 l0_2.length c0_2)) (fun _ hk=>hk.2) (.int .i64 a0_0)) (fun _ hk=>hk.2) (.int .i64 a0_1)) (fun _ hk=>hk.2) (.slice A0_2 l0_2.length c0_2)) (fun _ hk=>hk.1.1.1),by(with_reducible repeat(first|apply Kd.V_alloc|apply Kd.V_drewN|apply Kd.V_drew));exact Kd.V_mono (Kd.V_far (p:=⟨gb114,3,none⟩) (Kd.V_far (p:=⟨gb114,2,none⟩) (Kd.V_far (p:=⟨gb114,1,none⟩) (Kd.V_far (p:=⟨gb114,0,none⟩) (Kd.V_mono HO0_2.out (fun k_ hk=>(⟨hk,hk.2⟩:_∧k_≠gb114))) (fun _ hk=>hk.2) (.slice A0_2 l0_2.length c0_2)) (fun _ hk=>hk.2) (.int .i64 a0_0)) (fun _ hk=>hk.2) (.int .i64 a0_1)) (fun _ hk=>hk.2) (.slice A0_2 l0_2.length c0_2)) (fun _ hk=>hk.1.1.1),hb_ HB⟩
def spot_place_may.f (a0_0:Int) (a0_1:Int):Option (Bool):=if a0_0≥1 then(if a0_0≤99 then(if a0_1≥0 then(some (decide (a0_1<8))) else(some false)) else(some false)) else(some false)
set_option maxHeartbeats 8000000 in
set_option maxRecDepth 100000 in
theorem spot_place_may.calls (a0_0:Int) (a0_1:Int) (r:Bool) (w:World) (h:spot_place_may.f a0_0 a0_1=some r):
  Calls Try.prog 99 #[.agg #[.int .i64 a0_0,.int .i64 a0_1]] w fun e w'=>e=.returned (.bool r)∧Below w.heap.size w w':=by
 have hu121:=Try.underlying121
 have HB:=zB (Below.refl w.heap.size w)
 have H:(if a0_0≥1 then(if a0_0≤99 then(if a0_1≥0 then(some (decide (a0_1<8))) else(some false)) else(some false)) else(some false))=some r:=h
 clear h
 by_cases c2:a0_0≥1
 ·rw[if_pos c2] at H
  have c2b0:=zO c2
  clear c2
  by_cases c3:a0_0≤99
  ·rw[if_pos c3] at H
   have c3b0:=zO c3
   clear c3
   by_cases c4:a0_1≥0
   ·rw[if_pos c4] at H
    have c4b0:=zO c4
    clear c4
    obtain rfl:=zW H
    go_enter Try.func99,Try.ntmps99
    go_wp2_with (first|((with_reducible refine gate_dst (N:=1) rfl ?_);refine be_ (N:=1) (cs:=#[.int .i64 a0_0,.int .i64 a0_1]) (t:=121) ?_;intro gb115 hg w5 hbox hb;have BK115:=zB hbox;have GW115:=gw_ hg HB;have GE115:=GW115;replace HB:=zB (zQ HB.out hb);clear hb hbox hg;have hcz6:=zD BK115.out;have hfz6:=zC BK115.out))
    go_ret
    exact⟨ew_,hb_ HB⟩
   ·rw[if_neg c4] at H
    have c4b0:=zY c4
    clear c4
    obtain rfl:=zW H
    go_enter Try.func99,Try.ntmps99
    go_wp2_with (first|((with_reducible refine gate_dst (N:=1) rfl ?_);refine be_ (N:=1) (cs:=#[.int .i64 a0_0,.int .i64 a0_1]) (t:=121) ?_;intro gb115 hg w7 hbox hb;have BK115:=zB hbox;have GW115:=gw_ hg HB;have GE115:=GW115;replace HB:=zB (zQ HB.out hb);clear hb hbox hg;have hcz8:=zD BK115.out;have hfz8:=zC BK115.out))
    go_ret
    exact⟨ew_,hb_ HB⟩
  ·rw[if_neg c3] at H
   have c3b0:=zY c3
   clear c3
   obtain rfl:=zW H
   go_enter Try.func99,Try.ntmps99
   go_wp2_with (first|((with_reducible refine gate_dst (N:=1) rfl ?_);refine be_ (N:=1) (cs:=#[.int .i64 a0_0,.int .i64 a0_1]) (t:=121) ?_;intro gb115 hg w9 hbox hb;have BK115:=zB hbox;have GW115:=gw_ hg HB;have GE115:=GW115;replace HB:=zB (zQ HB.out hb);clear hb hbox hg;have hcz10:=zD BK115.out;have hfz10:=zC BK115.out))
   go_ret
   exact⟨ew_,hb_ HB⟩
 ·rw[if_neg c2] at H
  have c2b0:=zY c2
  clear c2
  obtain rfl:=zW H
  go_enter Try.func99,Try.ntmps99
  go_wp2_with (first|((with_reducible refine gate_dst (N:=1) rfl ?_);refine be_ (N:=1) (cs:=#[.int .i64 a0_0,.int .i64 a0_1]) (t:=121) ?_;intro gb115 hg w11 hbox hb;have BK115:=zB hbox;have GW115:=gw_ hg HB;have GE115:=GW115;replace HB:=zB (zQ HB.out hb);clear hb hbox hg;have hcz12:=zD BK115.out;have hfz12:=zC BK115.out))
  go_ret
  exact⟨ew_,hb_ HB⟩
def spot_Is.f (a0_0:Int) (a0_1:Int):Option (Bool):=(spot_place_may.f a0_0 a0_1).bind fun t117=>(some t117)
set_option maxHeartbeats 8000000 in
set_option maxRecDepth 100000 in
theorem spot_Is.calls (a0_0:Int) (a0_1:Int) (r:Bool) (w:World) (h:spot_Is.f a0_0 a0_1=some r):
  Calls Try.prog 81 #[.agg #[.int .i64 a0_0,.int .i64 a0_1]] w fun e w'=>e=.returned (.bool r)∧Below w.heap.size w w':=by
 have hu26:=Try.underlying26
 have hu121:=Try.underlying121
 have HB:=zB (Below.refl w.heap.size w)
 have H:((spot_place_may.f a0_0 a0_1).bind fun t117=>(some t117))=some r:=h
 clear h
 replace H:=zL H
 obtain⟨t117,A20,H⟩:=H
 try dsimp only at H
 have A2:=zB A20
 clear A20
 obtain rfl:=zW H
 go_enter Try.func81,Try.ntmps81
 go_wp2_with (first|((with_reducible refine gate_dst (N:=1) rfl ?_);refine be_ (N:=1) (cs:=#[.int .i64 a0_0,.int .i64 a0_1]) (t:=26) ?_;intro gb116 hg w3 hbox hb;have BK116:=zB hbox;have GW116:=gw_ hg HB;have GE116:=GW116;replace HB:=zB (zQ HB.out hb);clear hb hbox hg;have hcz4:=zD BK116.out;have hfz4:=zC BK116.out)|((with_reducible refine gate_callee (f:=99) rfl ?_);refine gl_ (some 5) Try.func99 #[.agg #[.int .i64 a0_0,.int .i64 a0_1]] rfl ?_;(with_reducible refine(spot_place_may.calls a0_0 a0_1 t117 _ A2.out).mono ?_);rintro e w5 ⟨rfl,hb⟩;refine⟨_,rfl,?_⟩;replace BK116:=bl_ BK116 hb;replace HB:=zB (zQ (hb_ HB) hb);(try clear hb);(try clear hb2);(try clear hk);(try clear hi)))
 go_ret
 exact⟨ew_,hb_ HB⟩
def alarm_Wait.f (a0:Int):Option (Int):=if a0<1 then some 0 else if a0>3 then some 0 else if a0=1 then some 10 else if a0=2 then some 30 else some 90
set_option maxHeartbeats 8000000 in
set_option maxRecDepth 100000 in
theorem alarm_Wait.calls (a0:Int) (r:Int) (w:World) (h:alarm_Wait.f a0=some r):
    Calls Try.prog 82 #[.int .i64 a0] w fun e w'=>e=.returned (.int .i64 r)∧Drawn0 w w':=by
  have i0: ∀w,(Instr.index 122 (.agg #[.int .i64 10,.int .i64 30,.int .i64 90]) (.int .i64 0)).run Try.prog w=.ok (.int .i64 10) w:=fun _=>by kernel_rfl
  have i1: ∀w,(Instr.index 122 (.agg #[.int .i64 10,.int .i64 30,.int .i64 90]) (.int .i64 1)).run Try.prog w=.ok (.int .i64 30) w:=fun _=>by kernel_rfl
  have i2: ∀w,(Instr.index 122 (.agg #[.int .i64 10,.int .i64 30,.int .i64 90]) (.int .i64 2)).run Try.prog w=.ok (.int .i64 90) w:=fun _=>by kernel_rfl
  unfold alarm_Wait.f at h
  by_cases c1:a0<1
  · rw[if_pos c1] at h
    obtain rfl:=zW h
    have b1:decide (a0<1)=true:=zO c1
    clear i0 i1 i2 h c1
    go_enter Try.func82,Try.ntmps82
    go_wp2
    go_ret
    exact⟨rfl,Drawn0.refl _⟩
  · rw[if_neg c1] at h
    have b1:decide (a0<1)=false:=zY c1
    by_cases c2:a0>3
    · rw[if_pos c2] at h
      obtain rfl:=zW h
      have b2:decide (3<a0)=true:=zO c2
      clear i0 i1 i2 h c1 c2
      go_enter Try.func82,Try.ntmps82
      go_wp2
      go_ret
      exact⟨rfl,Drawn0.refl _⟩
    · rw[if_neg c2] at h
      have b2:decide (3<a0)=false:=zY c2
      have hc:a0=1∨a0=2∨a0=3:=by omega
      rcases hc with rfl|rfl|rfl
      all_goals
        simp at h
        subst h
        clear b1 b2 c1 c2
        go_enter Try.func82,Try.ntmps82
        go_wp2
        go_ret
        exact⟨rfl,Drawn0.refl _⟩
def alarm_time.f (a0:Int):Option (Bool):=if a0≥0 then(some (decide (a0≤1000000000))) else(some false)
set_option maxHeartbeats 8000000 in
set_option maxRecDepth 100000 in
theorem alarm_time.calls (a0:Int) (r:Bool) (w:World) (h:alarm_time.f a0=some r):
  Calls Try.prog 83 #[.int .i64 a0] w fun e w'=>e=.returned (.bool r)∧Drawn0 w w':=by
 have H:(if a0≥0 then(some (decide (a0≤1000000000))) else(some false))=some r:=h
 clear h
 by_cases c2:a0≥0
 ·rw[if_pos c2] at H
  have c2b0:=zO c2
  clear c2
  obtain rfl:=zW H
  go_enter Try.func83,Try.ntmps83
  go_wp2
  go_ret
  exact⟨rs_,dr_⟩
 ·rw[if_neg c2] at H
  have c2b0:=zY c2
  clear c2
  obtain rfl:=zW H
  go_enter Try.func83,Try.ntmps83
  go_wp2
  go_ret
  exact⟨rs_,dr_⟩
def alarm_Is.f (a0_0:Int) (a0_1:Int) (a0_2:Int) (a0_3:Int) (a0_4:Int) (a0_5:Int):Option (Bool):=(spot_Is.f a0_0 a0_1).bind fun t119=>(if t119=true then(if a0_2≥1 then(if a0_2≤4 then((alarm_Wait.f a0_3).bind fun t120=>(if t120>0 then((alarm_time.f a0_4).bind fun t121=>(if t121=true then(if a0_5≥a0_4 then(some (decide (a0_5≤1000002000))) else(some false)) else(some false))) else(some false))) else(some false)) else(some false)) else(some false))
set_option maxHeartbeats 8000000 in
set_option maxRecDepth 100000 in
theorem alarm_Is.calls (a0_0:Int) (a0_1:Int) (a0_2:Int) (a0_3:Int) (a0_4:Int) (a0_5:Int) (r:Bool) (w:World) (h:alarm_Is.f a0_0 a0_1 a0_2 a0_3 a0_4 a0_5=some r):
  Calls Try.prog 50 #[.agg #[.int .i64 a0_0,.int .i64 a0_1,.int .i64 a0_2,.int .i64 a0_3,.int .i64 a0_4,.int .i64 a0_5]] w fun e w'=>e=.returned (.bool r)∧Below w.heap.size w w':=by
 have hu28:=Try.underlying28
 have hu26:=Try.underlying26
 have HB:=zB (Below.refl w.heap.size w)
 have H:((spot_Is.f a0_0 a0_1).bind fun t119=>(if t119=true then(if a0_2≥1 then(if a0_2≤4 then((alarm_Wait.f a0_3).bind fun t120=>(if t120>0 then((alarm_time.f a0_4).bind fun t121=>(if t121=true then(if a0_5≥a0_4 then(some (decide (a0_5≤1000002000))) else(some false)) else(some false))) else(some false))) else(some false)) else(some false)) else(some false)))=some r:=h
 clear h
 replace H:=zL H
 obtain⟨t119,A20,H⟩:=H
 try dsimp only at H
 have A2:=zB A20
 clear A20
 by_cases c3:t119=true
 ·subst c3
  rw[if_pos rfl] at H;try dsimp only at H
  by_cases c4:a0_2≥1
  ·rw[if_pos c4] at H
   have c4b0:=zO c4
   clear c4
   by_cases c5:a0_2≤4
   ·rw[if_pos c5] at H
    have c5b0:=zO c5
    clear c5
    replace H:=zL H
    obtain⟨t120,A60,H⟩:=H
    try dsimp only at H
    have A6:=zB A60
    clear A60
    by_cases c7:t120>0
    ·rw[if_pos c7] at H
     have c7b0:=zO c7
     clear c7
     replace H:=zL H
     obtain⟨t121,A80,H⟩:=H
     try dsimp only at H
     have A8:=zB A80
     clear A80
     by_cases c9:t121=true
     ·subst c9
      rw[if_pos rfl] at H;try dsimp only at H
      by_cases c10:a0_5≥a0_4
      ·rw[if_pos c10] at H
       have c10b0:=zO c10
       clear c10
       obtain rfl:=zW H
       go_enter Try.func50,Try.ntmps50
       go_wp2_with (first|((with_reducible refine gate_dst (N:=1) rfl ?_);refine be_ (N:=1) (cs:=#[.int .i64 a0_0,.int .i64 a0_1,.int .i64 a0_2,.int .i64 a0_3,.int .i64 a0_4,.int .i64 a0_5]) (t:=28) ?_;intro gb118 hg w11 hbox hb;have BK118:=zB hbox;have GW118:=gw_ hg HB;have GE118:=GW118;replace HB:=zB (zQ HB.out hb);clear hb hbox hg;have hcz12:=zD BK118.out;have hfz12:=zC BK118.out)|((with_reducible refine gate_callee (f:=81) rfl ?_);refine gl_ (some 5) Try.func81 #[.agg #[.int .i64 a0_0,.int .i64 a0_1]] rfl ?_;(with_reducible refine(spot_Is.calls a0_0 a0_1 true _ A2.out).mono ?_);rintro e w13 ⟨rfl,hb⟩;refine⟨_,rfl,?_⟩;replace BK118:=bl_ BK118 hb;replace HB:=zB (zQ (hb_ HB) hb);(try clear hb);(try clear hb2);(try clear hk);(try clear hi);have hcz14:=zD BK118.out;have hfz14:=zC BK118.out)|(go_at_call 82;(with_reducible refine(alarm_Wait.calls a0_3 t120 _ A6.out).mono ?_);rintro e w' ⟨rfl,⟨nd,rfl⟩⟩)|(go_at_call 83;(with_reducible refine(alarm_time.calls a0_4 true _ A8.out).mono ?_);rintro e w' ⟨rfl,⟨nd,rfl⟩⟩))
       go_ret
       exact⟨ew_,hb_ HB⟩
      ·rw[if_neg c10] at H
       have c10b0:=zY c10
       clear c10
       obtain rfl:=zW H
       go_enter Try.func50,Try.ntmps50
       go_wp2_with (first|((with_reducible refine gate_dst (N:=1) rfl ?_);refine be_ (N:=1) (cs:=#[.int .i64 a0_0,.int .i64 a0_1,.int .i64 a0_2,.int .i64 a0_3,.int .i64 a0_4,.int .i64 a0_5]) (t:=28) ?_;intro gb118 hg w15 hbox hb;have BK118:=zB hbox;have GW118:=gw_ hg HB;have GE118:=GW118;replace HB:=zB (zQ HB.out hb);clear hb hbox hg;have hcz16:=zD BK118.out;have hfz16:=zC BK118.out)|((with_reducible refine gate_callee (f:=81) rfl ?_);refine gl_ (some 5) Try.func81 #[.agg #[.int .i64 a0_0,.int .i64 a0_1]] rfl ?_;(with_reducible refine(spot_Is.calls a0_0 a0_1 true _ A2.out).mono ?_);rintro e w17 ⟨rfl,hb⟩;refine⟨_,rfl,?_⟩;replace BK118:=bl_ BK118 hb;replace HB:=zB (zQ (hb_ HB) hb);(try clear hb);(try clear hb2);(try clear hk);(try clear hi);have hcz18:=zD BK118.out;have hfz18:=zC BK118.out)|(go_at_call 82;(with_reducible refine(alarm_Wait.calls a0_3 t120 _ A6.out).mono ?_);rintro e w' ⟨rfl,⟨nd,rfl⟩⟩)|(go_at_call 83;(with_reducible refine(alarm_time.calls a0_4 true _ A8.out).mono ?_);rintro e w' ⟨rfl,⟨nd,rfl⟩⟩))
       go_ret
       exact⟨ew_,hb_ HB⟩
     ·replace c9:=zb c9
      subst c9
      rw[if_neg (show ¬(false=true) by decide)] at H;try dsimp only at H
      obtain rfl:=zW H
      go_enter Try.func50,Try.ntmps50
      go_wp2_with (first|((with_reducible refine gate_dst (N:=1) rfl ?_);refine be_ (N:=1) (cs:=#[.int .i64 a0_0,.int .i64 a0_1,.int .i64 a0_2,.int .i64 a0_3,.int .i64 a0_4,.int .i64 a0_5]) (t:=28) ?_;intro gb118 hg w19 hbox hb;have BK118:=zB hbox;have GW118:=gw_ hg HB;have GE118:=GW118;replace HB:=zB (zQ HB.out hb);clear hb hbox hg;have hcz20:=zD BK118.out;have hfz20:=zC BK118.out)|((with_reducible refine gate_callee (f:=81) rfl ?_);refine gl_ (some 5) Try.func81 #[.agg #[.int .i64 a0_0,.int .i64 a0_1]] rfl ?_;(with_reducible refine(spot_Is.calls a0_0 a0_1 true _ A2.out).mono ?_);rintro e w21 ⟨rfl,hb⟩;refine⟨_,rfl,?_⟩;replace BK118:=bl_ BK118 hb;replace HB:=zB (zQ (hb_ HB) hb);(try clear hb);(try clear hb2);(try clear hk);(try clear hi);have hcz22:=zD BK118.out;have hfz22:=zC BK118.out)|(go_at_call 82;(with_reducible refine(alarm_Wait.calls a0_3 t120 _ A6.out).mono ?_);rintro e w' ⟨rfl,⟨nd,rfl⟩⟩)|(go_at_call 83;(with_reducible refine(alarm_time.calls a0_4 false _ A8.out).mono ?_);rintro e w' ⟨rfl,⟨nd,rfl⟩⟩))
      go_ret
      exact⟨ew_,hb_ HB⟩
    ·rw[if_neg c7] at H
     have c7b0:=zY c7
     clear c7
     obtain rfl:=zW H
     go_enter Try.func50,Try.ntmps50
     go_wp2_with (first|((with_reducible refine gate_dst (N:=1) rfl ?_);refine be_ (N:=1) (cs:=#[.int .i64 a0_0,.int .i64 a0_1,.int .i64 a0_2,.int .i64 a0_3,.int .i64 a0_4,.int .i64 a0_5]) (t:=28) ?_;intro gb118 hg w23 hbox hb;have BK118:=zB hbox;have GW118:=gw_ hg HB;have GE118:=GW118;replace HB:=zB (zQ HB.out hb);clear hb hbox hg;have hcz24:=zD BK118.out;have hfz24:=zC BK118.out)|((with_reducible refine gate_callee (f:=81) rfl ?_);refine gl_ (some 5) Try.func81 #[.agg #[.int .i64 a0_0,.int .i64 a0_1]] rfl ?_;(with_reducible refine(spot_Is.calls a0_0 a0_1 true _ A2.out).mono ?_);rintro e w25 ⟨rfl,hb⟩;refine⟨_,rfl,?_⟩;replace BK118:=bl_ BK118 hb;replace HB:=zB (zQ (hb_ HB) hb);(try clear hb);(try clear hb2);(try clear hk);(try clear hi);have hcz26:=zD BK118.out;have hfz26:=zC BK118.out)|(go_at_call 82;(with_reducible refine(alarm_Wait.calls a0_3 t120 _ A6.out).mono ?_);rintro e w' ⟨rfl,⟨nd,rfl⟩⟩))
     go_ret
     exact⟨ew_,hb_ HB⟩
   ·rw[if_neg c5] at H
    have c5b0:=zY c5
    clear c5
    obtain rfl:=zW H
    go_enter Try.func50,Try.ntmps50
    go_wp2_with (first|((with_reducible refine gate_dst (N:=1) rfl ?_);refine be_ (N:=1) (cs:=#[.int .i64 a0_0,.int .i64 a0_1,.int .i64 a0_2,.int .i64 a0_3,.int .i64 a0_4,.int .i64 a0_5]) (t:=28) ?_;intro gb118 hg w27 hbox hb;have BK118:=zB hbox;have GW118:=gw_ hg HB;have GE118:=GW118;replace HB:=zB (zQ HB.out hb);clear hb hbox hg;have hcz28:=zD BK118.out;have hfz28:=zC BK118.out)|((with_reducible refine gate_callee (f:=81) rfl ?_);refine gl_ (some 5) Try.func81 #[.agg #[.int .i64 a0_0,.int .i64 a0_1]] rfl ?_;(with_reducible refine(spot_Is.calls a0_0 a0_1 true _ A2.out).mono ?_);rintro e w29 ⟨rfl,hb⟩;refine⟨_,rfl,?_⟩;replace BK118:=bl_ BK118 hb;replace HB:=zB (zQ (hb_ HB) hb);(try clear hb);(try clear hb2);(try clear hk);(try clear hi);have hcz30:=zD BK118.out;have hfz30:=zC BK118.out))
    go_ret
    exact⟨ew_,hb_ HB⟩
  ·rw[if_neg c4] at H
   have c4b0:=zY c4
   clear c4
   obtain rfl:=zW H
   go_enter Try.func50,Try.ntmps50
   go_wp2_with (first|((with_reducible refine gate_dst (N:=1) rfl ?_);refine be_ (N:=1) (cs:=#[.int .i64 a0_0,.int .i64 a0_1,.int .i64 a0_2,.int .i64 a0_3,.int .i64 a0_4,.int .i64 a0_5]) (t:=28) ?_;intro gb118 hg w31 hbox hb;have BK118:=zB hbox;have GW118:=gw_ hg HB;have GE118:=GW118;replace HB:=zB (zQ HB.out hb);clear hb hbox hg;have hcz32:=zD BK118.out;have hfz32:=zC BK118.out)|((with_reducible refine gate_callee (f:=81) rfl ?_);refine gl_ (some 5) Try.func81 #[.agg #[.int .i64 a0_0,.int .i64 a0_1]] rfl ?_;(with_reducible refine(spot_Is.calls a0_0 a0_1 true _ A2.out).mono ?_);rintro e w33 ⟨rfl,hb⟩;refine⟨_,rfl,?_⟩;replace BK118:=bl_ BK118 hb;replace HB:=zB (zQ (hb_ HB) hb);(try clear hb);(try clear hb2);(try clear hk);(try clear hi);have hcz34:=zD BK118.out;have hfz34:=zC BK118.out))
   go_ret
   exact⟨ew_,hb_ HB⟩
 ·replace c3:=zb c3
  subst c3
  rw[if_neg (show ¬(false=true) by decide)] at H;try dsimp only at H
  obtain rfl:=zW H
  go_enter Try.func50,Try.ntmps50
  go_wp2_with (first|((with_reducible refine gate_dst (N:=1) rfl ?_);refine be_ (N:=1) (cs:=#[.int .i64 a0_0,.int .i64 a0_1,.int .i64 a0_2,.int .i64 a0_3,.int .i64 a0_4,.int .i64 a0_5]) (t:=28) ?_;intro gb118 hg w35 hbox hb;have BK118:=zB hbox;have GW118:=gw_ hg HB;have GE118:=GW118;replace HB:=zB (zQ HB.out hb);clear hb hbox hg;have hcz36:=zD BK118.out;have hfz36:=zC BK118.out)|((with_reducible refine gate_callee (f:=81) rfl ?_);refine gl_ (some 5) Try.func81 #[.agg #[.int .i64 a0_0,.int .i64 a0_1]] rfl ?_;(with_reducible refine(spot_Is.calls a0_0 a0_1 false _ A2.out).mono ?_);rintro e w37 ⟨rfl,hb⟩;refine⟨_,rfl,?_⟩;replace BK118:=bl_ BK118 hb;replace HB:=zB (zQ (hb_ HB) hb);(try clear hb);(try clear hb2);(try clear hk);(try clear hi)))
  go_ret
  exact⟨ew_,hb_ HB⟩
def spot_Less.f (a0_0:Int) (a0_1:Int) (a1_0:Int) (a1_1:Int):Option (Bool):=if a0_0<a1_0 then(some true) else(if a0_0=a1_0 then(some (decide (a0_1<a1_1))) else(some false))
set_option maxHeartbeats 8000000 in
set_option maxRecDepth 100000 in
theorem spot_Less.calls (a0_0:Int) (a0_1:Int) (a1_0:Int) (a1_1:Int) (r:Bool) (w:World) (h:spot_Less.f a0_0 a0_1 a1_0 a1_1=some r):
  Calls Try.prog 84 #[.agg #[.int .i64 a0_0,.int .i64 a0_1],.agg #[.int .i64 a1_0,.int .i64 a1_1]] w fun e w'=>e=.returned (.bool r)∧Below w.heap.size w w':=by
 have hu26:=Try.underlying26
 have HB:=zB (Below.refl w.heap.size w)
 have H:(if a0_0<a1_0 then(some true) else(if a0_0=a1_0 then(some (decide (a0_1<a1_1))) else(some false)))=some r:=h
 clear h
 by_cases c3:a0_0<a1_0
 ·rw[if_pos c3] at H
  have c3b0:=zO c3
  clear c3
  obtain rfl:=zW H
  go_enter Try.func84,Try.ntmps84
  go_wp2_with (first|((with_reducible refine gate_dst (N:=2) rfl ?_);refine be_ (N:=2) (cs:=#[.int .i64 a0_0,.int .i64 a0_1]) (t:=26) ?_;intro gb122 hg w4 hbox hb;have BK122:=zB hbox;have GW122:=gw_ hg HB;have GE122:=GW122;replace HB:=zB (zQ HB.out hb);clear hb hbox hg)|((with_reducible refine gate_dst (N:=3) rfl ?_);refine be_ (N:=3) (cs:=#[.int .i64 a1_0,.int .i64 a1_1]) (t:=26) ?_;intro gb123 hg w5 hbox hb;have BK123:=zB hbox;have GE123:=gx_ hg (show Below w.heap.size w _ from hb_ HB);have GW123:=GE123;replace HB:=zB (zQ (hb_ HB) hb);have NB122_123:=nb_ BK122 hg;have NB123_122:=nc_ BK122 hg;replace BK122:=bl_ BK122 hb;clear hb hbox hg;have hnb6:=NB122_123.out;have hnc6:=NB123_122.out;have hcz7:=zD BK122.out;have hfz7:=zC BK122.out;have hcz8:=zD BK123.out))
  go_ret
  exact⟨ew_,hb_ HB⟩
 ·rw[if_neg c3] at H
  have c3b0:=zY c3
  clear c3
  by_cases c9:a0_0=a1_0
  ·rw[if_pos c9] at H
   have c9b0:=beq_iff_eq.mpr c9
   have c9b1:=bne_eq_false_iff_eq.mpr c9
   clear c9
   obtain rfl:=zW H
   go_enter Try.func84,Try.ntmps84
   go_wp2_with (first|((with_reducible refine gate_dst (N:=2) rfl ?_);refine be_ (N:=2) (cs:=#[.int .i64 a0_0,.int .i64 a0_1]) (t:=26) ?_;intro gb122 hg w10 hbox hb;have BK122:=zB hbox;have GW122:=gw_ hg HB;have GE122:=GW122;replace HB:=zB (zQ HB.out hb);clear hb hbox hg)|((with_reducible refine gate_dst (N:=3) rfl ?_);refine be_ (N:=3) (cs:=#[.int .i64 a1_0,.int .i64 a1_1]) (t:=26) ?_;intro gb123 hg w11 hbox hb;have BK123:=zB hbox;have GE123:=gx_ hg (show Below w.heap.size w _ from hb_ HB);have GW123:=GE123;replace HB:=zB (zQ (hb_ HB) hb);have NB122_123:=nb_ BK122 hg;have NB123_122:=nc_ BK122 hg;replace BK122:=bl_ BK122 hb;clear hb hbox hg;have hnb12:=NB122_123.out;have hnc12:=NB123_122.out;have hcz13:=zD BK122.out;have hfz13:=zC BK122.out;have hcz14:=zD BK123.out))
   go_ret
   exact⟨ew_,hb_ HB⟩
  ·rw[if_neg c9] at H
   have c9b0:=beq_eq_false_iff_ne.mpr c9
   have c9b1:=bne_iff_ne.mpr c9
   obtain rfl:=zW H
   go_enter Try.func84,Try.ntmps84
   go_wp2_with (first|((with_reducible refine gate_dst (N:=2) rfl ?_);refine be_ (N:=2) (cs:=#[.int .i64 a0_0,.int .i64 a0_1]) (t:=26) ?_;intro gb122 hg w15 hbox hb;have BK122:=zB hbox;have GW122:=gw_ hg HB;have GE122:=GW122;replace HB:=zB (zQ HB.out hb);clear hb hbox hg)|((with_reducible refine gate_dst (N:=3) rfl ?_);refine be_ (N:=3) (cs:=#[.int .i64 a1_0,.int .i64 a1_1]) (t:=26) ?_;intro gb123 hg w16 hbox hb;have BK123:=zB hbox;have GE123:=gx_ hg (show Below w.heap.size w _ from hb_ HB);have GW123:=GE123;replace HB:=zB (zQ (hb_ HB) hb);have NB122_123:=nb_ BK122 hg;have NB123_122:=nc_ BK122 hg;replace BK122:=bl_ BK122 hb;clear hb hbox hg;have hnb17:=NB122_123.out;have hnc17:=NB123_122.out;have hcz18:=zD BK122.out;have hfz18:=zC BK122.out;have hcz19:=zD BK123.out))
   go_ret
   exact⟨ew_,hb_ HB⟩
end Go.Proofs.Ytcfpbmdndapeaaa.F
