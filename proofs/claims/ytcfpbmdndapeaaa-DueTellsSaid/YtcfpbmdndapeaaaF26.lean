-- Written by a program of this session (xprint.py), out of the translation and of contracts proved by hand.
import Derived.Test.YtcfpbmdndapeaaaF0
import Derived.Test.YtcfpbmdndapeaaaF3
import Derived.Test.YtcfpbmdndapeaaaF4
import Derived.Test.YtcfpbmdndapeaaaF7
namespace Go.Proofs.Ytcfpbmdndapeaaa.F
open Go.RowKit Go.Proofs.YtcfpbmdndapeaaaV.PrintWords Go.Proofs.YtcfpbmdndapeaaaV.PrintLast Go.Proofs.YtcfpbmdndapeaaaV.PrintMore
attribute [local go_sem] max2_int min2_int max_two min_two max_three min_three max_four min_four
set_option linter.unusedVariables false
set_option linter.unusedSimpArgs false
attribute [local go_sem high] eqA65
def watchmanref09_Same.l0:Nat→List (S65)→List (S65)→Int→Option (Bool)
 |0,_,_,_=>none
 |k+1,x0,x1,x5=>if x5<(x0.length:Int) then(if 0≤x5 then(if x5<(x1.length:Int) then(if(!(((rd_T65 x0 x5).f0)==((rd_T65 x1 x5).f0))||((!(((rd_T65 x0 x5).f1.f0)==((rd_T65 x1 x5).f1.f0))||(!(((rd_T65 x0 x5).f1.f1)==((rd_T65 x1 x5).f1.f1))))||(!(((rd_T65 x0 x5).f2)==((rd_T65 x1 x5).f2)))))=true then(some false) else(watchmanref09_Same.l0 k x0 x1 (wrap64 (x5+1)))) else(none)) else(none)) else(some true)
def watchmanref09_Same.f (k:Nat) (l0:List (S65)) (l1:List (S65)):Option (Bool):=if(l0.length:Int)=(l1.length:Int) then(watchmanref09_Same.l0 k l0 l1 0) else(some false)
theorem watchmanref09_Same.mono_l: ∀k,(∀y0 y1 y2,LeO (watchmanref09_Same.l0 k y0 y1 y2) (watchmanref09_Same.l0 (k+1) y0 y1 y2))
 |0=>fun _ _ _ r h=>by simp[watchmanref09_Same.l0] at h
 |k+1=>by
  have ih0:=watchmanref09_Same.mono_l k
  ·intro y0 y1 y2
   unfold watchmanref09_Same.l0
   repeat' first
   |(with_reducible exact ih0 _ _ _)
   |(with_reducible exact LeO.refl _)
   |(with_reducible exact zf _)
   |(with_reducible refine zg ?_ ?_)
   |(with_reducible refine ze ?_ (fun _=>?_))
theorem watchmanref09_Same.mono: ∀a0 a1 k,LeO (watchmanref09_Same.f k a0 a1) (watchmanref09_Same.f (k+1) a0 a1):=by
 intro a0 a1 k
 have ih0:=watchmanref09_Same.mono_l k
 unfold watchmanref09_Same.f
 repeat' first
   |(with_reducible exact ih0 _ _ _)
   |(with_reducible exact LeO.refl _)
   |(with_reducible exact zf _)
   |(with_reducible refine zg ?_ ?_)
   |(with_reducible refine ze ?_ (fun _=>?_))
set_option maxHeartbeats 8000000 in
set_option maxRecDepth 100000 in
theorem watchmanref09_Same.calls (k:Nat) (A0:Option Addr) (c0:Nat) (l0:List (S65)) (A1:Option Addr) (c1:Nat) (l1:List (S65)) (r:Bool) (w:World) (hr0:Kd.C k65 w A0 l0.length l0) (hc0:l0.length≤c0) (hr1:Kd.C k65 w A1 l1.length l1) (hc1:l1.length≤c1) (h:watchmanref09_Same.f k l0 l1=some r):
  Calls Try.prog 45 #[.slice A0 l0.length c0,.slice A1 l1.length c1] w fun e w'=>e=.returned (.bool r)∧Drawn0 w w':=by
 have hu65:=Try.underlying65
 have HR0:=zB hr0
 have HC0:=zB hc0
 clear hr0 hc0
 have HR1:=zB hr1
 have HC1:=zB hc1
 clear hr1 hc1
 have H:(if(l0.length:Int)=(l1.length:Int) then(watchmanref09_Same.l0 k l0 l1 0) else(some false))=some r:=h
 clear h
 by_cases c3:(l0.length:Int)=(l1.length:Int)
 ·rw[if_pos c3] at H
  have c3b0:=beq_iff_eq.mpr c3
  have c3b1:=bne_eq_false_iff_eq.mpr c3
  have c3b2:(l0.length==l1.length)=true:=by first|simpa using c3|(simp at c3⊢;omega)
  clear c3
  have H':=zB H
  clear H
  go_enter Try.func45,Try.ntmps45
  go_wp2
  repeat(go_quiet (fail);try go_wp2)
  go_loopg [5] k (fun kq v5 w'=> ∃(x5_1:Int),v5=.int .i64 x5_1∧Aside0 (watchmanref09_Same.l0 kq l0 l1 x5_1=some r)∧Aside0 (kq≤k)∧Drawn0 w w')
  case atStart=>exact⟨(0),rs_,H',⟨za _⟩,dr_⟩
  case round=>
   clear H'
   try clear c1;try clear p2;try clear c3;try clear c3b0;try clear c3b1;try clear c3b2
   obtain⟨x5_1,rfl,HA,HK1,⟨m1,rfl⟩⟩:=hrel
   cases gk with
   |zero=>exact absurd HA.out (by simp[watchmanref09_Same.l0])
   |succ k1=>
    have H:=HA.out
    clear HA
    simp only[watchmanref09_Same.l0] at H
    by_cases c4:x5_1<(l0.length:Int)
    ·rw[if_pos c4] at H
     have c4b0:=zO c4
     clear c4
     obtain⟨c5,H⟩:=gd_ H
     have c5b0:=zO c5
     clear c5
     obtain⟨c6,H⟩:=gd_ H
     have c6b0:=zO c6
     clear c6
     by_cases c7:(!(((rd_T65 l0 x5_1).f0)==((rd_T65 l1 x5_1).f0))||((!(((rd_T65 l0 x5_1).f1.f0)==((rd_T65 l1 x5_1).f1.f0))||(!(((rd_T65 l0 x5_1).f1.f1)==((rd_T65 l1 x5_1).f1.f1))))||(!(((rd_T65 l0 x5_1).f2)==((rd_T65 l1 x5_1).f2)))))=true
     ·rw[if_pos c7] at H
      have c7b0:(!(((rd_T65 l0 x5_1).f0)==((rd_T65 l1 x5_1).f0))||((!(((rd_T65 l0 x5_1).f1.f0)==((rd_T65 l1 x5_1).f1.f0))||(!(((rd_T65 l0 x5_1).f1.f1)==((rd_T65 l1 x5_1).f1.f1))))||(!(((rd_T65 l0 x5_1).f2)==((rd_T65 l1 x5_1).f2)))))=true:=c7
      clear c7
      obtain rfl:=zW H
      have p323:0≤(x5_1:Int):=zJ as_
      have q323:x5_1<(l0.length:Int):=zJ as_
      obtain⟨ad323,e323,hx323_0,hx323_1,hx323_2,hx323_3⟩:=at_T65 HR0.out x5_1 p323 q323
      cases e323
      replace p323:=eq_true p323
      replace q323:=eq_true q323
      have p324:0≤(x5_1:Int):=zJ as_
      have q324:x5_1<(l1.length:Int):=zJ as_
      obtain⟨ad324,e324,hx324_0,hx324_1,hx324_2,hx324_3⟩:=at_T65 HR1.out x5_1 p324 q324
      cases e324
      replace p324:=eq_true p324
      replace q324:=eq_true q324
      go_wp2
      repeat(go_quiet (fail);try go_wp2)
      go_ret
      exact⟨rs_,dr_⟩
     ·rw[if_neg c7] at H
      have c7b0:(!(((rd_T65 l0 x5_1).f0)==((rd_T65 l1 x5_1).f0))||((!(((rd_T65 l0 x5_1).f1.f0)==((rd_T65 l1 x5_1).f1.f0))||(!(((rd_T65 l0 x5_1).f1.f1)==((rd_T65 l1 x5_1).f1.f1))))||(!(((rd_T65 l0 x5_1).f2)==((rd_T65 l1 x5_1).f2)))))=false:=by simpa using c7
      clear c7
      have H':=zB H
      clear H
      have p323:0≤(x5_1:Int):=zJ as_
      have q323:x5_1<(l0.length:Int):=zJ as_
      obtain⟨ad323,e323,hx323_0,hx323_1,hx323_2,hx323_3⟩:=at_T65 HR0.out x5_1 p323 q323
      cases e323
      replace p323:=eq_true p323
      replace q323:=eq_true q323
      have p324:0≤(x5_1:Int):=zJ as_
      have q324:x5_1<(l1.length:Int):=zJ as_
      obtain⟨ad324,e324,hx324_0,hx324_1,hx324_2,hx324_3⟩:=at_T65 HR1.out x5_1 p324 q324
      cases e324
      replace p324:=eq_true p324
      replace q324:=eq_true q324
      go_wp2
      repeat(go_quiet (fail);try go_wp2)
      go_roundg k1
      case measure=>have:=HK1.out;omega
      case rel=>exact⟨(wrap64 (x5_1+1)),rs_,H',⟨za_ HK1⟩,dr_⟩
    ·rw[if_neg c4] at H
     have c4b0:=zY c4
     clear c4
     obtain rfl:=zW H
     go_wp2
     repeat(go_quiet (fail);try go_wp2)
     go_ret
     exact⟨rs_,dr_⟩
 ·rw[if_neg c3] at H
  have c3b0:=beq_eq_false_iff_ne.mpr c3
  have c3b1:=bne_iff_ne.mpr c3
  have c3b2:(l0.length==l1.length)=false:=by first|simpa using c3|(simp at c3⊢;omega)
  obtain rfl:=zW H
  go_enter Try.func45,Try.ntmps45
  go_wp2
  repeat(go_quiet (fail);try go_wp2)
  go_ret
  exact⟨rs_,dr_⟩
def board_New.f (a0:Int):Option (Int×Int×(List (S28))×Int):=if a0<1 then(none) else(if a0>200 then(none) else(some (a0,0,([]:List (S28)),0)))
set_option maxHeartbeats 8000000 in
set_option maxRecDepth 100000 in
theorem board_New.calls (a0:Int) (r1:Int) (r2:Int) (r3:List (S28)) (r4:Int) (w:World) (h:board_New.f a0=some (r1,r2,r3,r4)):
  Calls Try.prog 23 #[.int .i64 a0] w fun e w'=> ∃v2_:Value,e=.returned (.tuple #[.agg #[.int .i64 r1,.int .i64 r2,v2_],.int .i64 r4])∧Kd.R k28 28 w' w.heap.size (fun _=>True) v2_ r3∧Below w.heap.size w w':=by
 have hu24:=Try.underlying24
 have HB:=zB (Below.refl w.heap.size w)
 have H:(if a0<1 then(none) else(if a0>200 then(none) else(some (a0,0,([]:List (S28)),0))))=some (r1,r2,r3,r4):=h
 clear h
 by_cases c2:a0<1
 ·rw[if_pos c2] at H
  exact absurd H (by simp)
 ·rw[if_neg c2] at H
  have c2b0:=zY c2
  clear c2
  by_cases c3:a0>200
  ·rw[if_pos c3] at H
   exact absurd H (by simp)
  ·rw[if_neg c3] at H
   have c3b0:=zY c3
   clear c3
   simp only[zc,Prod.mk.injEq] at H
   obtain⟨rfl,rfl,rfl,rfl⟩:=H
   go_enter Try.func23,Try.ntmps23
   go_wp2_with (first|((with_reducible refine gate_dst (N:=2) rfl ?_);refine be_ (N:=2) (cs:=#[.int .i64 0,.int .i64 0,.slice none 0 0]) (t:=24) ?_;intro gb325 hg w4 hbox hb;have BK325:=zB hbox;have GW325:=gw_ hg HB;have GE325:=GW325;replace HB:=zB (zQ HB.out hb);clear hb hbox hg;have hcz5:=zD BK325.out;have hfz5:=zC BK325.out))
   refine bodyPost_ret (results_ct rfl _ _ gb325 24 #[.int .i64 a0,.int .i64 0,.slice none 0 0] (0,0) _ rfl (by refine zZ (cs:=#[.int .i64 a0,.int .i64 0,.slice none 0 0]) ?_ 2 _ rfl;refine zZ (cs:=#[.int .i64 a0,.int .i64 0,.slice none 0 0]) ?_ 1 _ rfl;refine zZ (cs:=#[.int .i64 0,.int .i64 0,.slice none 0 0]) ?_ 0 _ rfl;exact BK325.out) Try.underlying24 rfl (by kernel_rfl)) rfl ?_
   exact⟨_,ew_,by first|exact Kd.R_nil _ _ _ _ _|exact Kd.N_nil _ _ _ _ _|exact Kd.V_nil _ _ _ _ _|exact Kd.Q_nil _ _ _ _ _|exact Kd.S_nil _ _ _ _ _,hb_ HB⟩
def alarm_Open.f (a0_0:Int) (a0_1:Int) (a1:Int) (a2:Int):Option (Int×Int×Int×Int×Int×Int×Int):=(spot_Is.f a0_0 a0_1).bind fun t328=>(if t328=true then((alarm_Wait.f a1).bind fun t329=>(if t329=0 then(none) else((alarm_time.f a2).bind fun t330=>(if t330=true then((alarm_Wait.f a1).bind fun t331=>(some (a0_0,a0_1,1,a1,a2,wrap64 (a2+t331),0))) else(none))))) else(none))
def alarm_Open.T3:Bool×List (List Nat×List Nat):=(true,[([],[]),([],[]),([],[]),([],[]),([],[]),([4],[4]),([3,5],[3,5]),([0,1,2,6],[0,1,2,6]),([7,5,0,1,2,3,4,5,6,7],[7]),([8,0,1,2,3,4,5,6,7,8],[])])
def alarm_Open.B3:List Nat:=[0,0,0,0,0,16,56,127,255,511]
theorem alarm_Open.tab3:rtab .any (opsOf Try.f64 3)=alarm_Open.T3:=by kernel_rfl
theorem alarm_Open.bits3:waitsOk alarm_Open.T3.2 alarm_Open.B3=true:=by kernel_rfl
set_option maxHeartbeats 8000000 in
set_option maxRecDepth 100000 in
theorem alarm_Open.calls (a0_0:Int) (a0_1:Int) (a1:Int) (a2:Int) (r1:Int) (r2:Int) (r3:Int) (r4:Int) (r5:Int) (r6:Int) (r7:Int) (w:World) (h:alarm_Open.f a0_0 a0_1 a1 a2=some (r1,r2,r3,r4,r5,r6,r7)):
  Calls Try.prog 64 #[.agg #[.int .i64 a0_0,.int .i64 a0_1],.int .i64 a1,.int .i64 a2] w fun e w'=>e=.returned (.tuple #[.agg #[.int .i64 r1,.int .i64 r2,.int .i64 r3,.int .i64 r4,.int .i64 r5,.int .i64 r6],.int .i64 r7])∧Below w.heap.size w w':=by
 have hu26:=Try.underlying26
 have hu28:=Try.underlying28
 have HB:=zB (Below.refl w.heap.size w)
 have H:((spot_Is.f a0_0 a0_1).bind fun t328=>(if t328=true then((alarm_Wait.f a1).bind fun t329=>(if t329=0 then(none) else((alarm_time.f a2).bind fun t330=>(if t330=true then((alarm_Wait.f a1).bind fun t331=>(some (a0_0,a0_1,1,a1,a2,wrap64 (a2+t331),0))) else(none))))) else(none)))=some (r1,r2,r3,r4,r5,r6,r7):=h
 clear h
 replace H:=zL H
 obtain⟨t328,A40,H⟩:=H
 try dsimp only at H
 have A4:=zB A40
 clear A40
 by_cases c5:t328=true
 ·subst c5
  rw[if_pos rfl] at H;try dsimp only at H
  replace H:=zL H
  obtain⟨t329,A60,H⟩:=H
  try dsimp only at H
  have A6:=zB A60
  clear A60
  by_cases c7:t329=0
  ·rw[if_pos c7] at H
   exact absurd H (by simp)
  ·rw[if_neg c7] at H
   have c7b0:=beq_eq_false_iff_ne.mpr c7
   have c7b1:=bne_iff_ne.mpr c7
   replace H:=zL H
   obtain⟨t330,A80,H⟩:=H
   try dsimp only at H
   have A8:=zB A80
   clear A80
   by_cases c9:t330=true
   ·subst c9
    rw[if_pos rfl] at H;try dsimp only at H
    replace H:=zL H
    obtain⟨t331,A100,H⟩:=H
    try dsimp only at H
    have A10:=zB A100
    clear A100
    simp only[zc,Prod.mk.injEq] at H
    obtain⟨rfl,rfl,rfl,rfl,rfl,rfl,rfl⟩:=H
    go_enter Try.func64,Try.ntmps64
    try go_wp2_with (first|((with_reducible refine gate_dst (N:=3) rfl ?_);refine be_ (N:=3) (cs:=#[.int .i64 a0_0,.int .i64 a0_1]) (t:=26) ?_;intro gb326 hg w11 hbox hb;have BK326:=zB hbox;have GW326:=gw_ hg HB;have GE326:=GW326;replace HB:=zB (zQ HB.out hb);clear hb hbox hg)|((with_reducible refine gate_dst (N:=6) rfl ?_);refine be_ (N:=6) (cs:=#[.int .i64 0,.int .i64 0,.int .i64 0,.int .i64 0,.int .i64 0,.int .i64 0]) (t:=28) ?_;intro gb327 hg w12 hbox hb;have BK327:=zB hbox;have GE327:=gx_ hg (show Below w.heap.size w _ from hb_ HB);have GW327:=GE327;replace HB:=zB (zQ (hb_ HB) hb);have NB326_327:=nb_ BK326 hg;have NB327_326:=nc_ BK326 hg;replace BK326:=bl_ BK326 hb;clear hb hbox hg;have hnb13:=NB326_327.out;have hnc13:=NB327_326.out;have hcz14:=zD BK326.out;have hfz14:=zC BK326.out)|((with_reducible refine gate_callee (f:=81) rfl ?_);refine gl_ (some 9) Try.func81 #[.agg #[.int .i64 a0_0,.int .i64 a0_1]] rfl ?_;(with_reducible refine(spot_Is.calls a0_0 a0_1 true _ A4.out).mono ?_);rintro e w15 ⟨rfl,hb⟩;refine⟨_,rfl,?_⟩;replace BK326:=bl_ BK326 hb;replace BK327:=bl_ BK327 hb;replace HB:=zB (zQ (hb_ HB) hb);(try clear hb);(try clear hb2);(try clear hk);(try clear hi))|(go_at_call 82;(with_reducible refine(alarm_Wait.calls a1 t329 _ A6.out).mono ?_);rintro e w' ⟨rfl,⟨nd,rfl⟩⟩;(try(rw[drewN_self w15];generalize hq_:World.drewN w15 _=w15;have n0_:Aside0 (w15.heap[gb326]?=some (.cells #[.int .i64 a0_0,.int .i64 a0_1] 26 (0,0))):=⟨by rw[←hq_];exact BK326.out⟩;have n1_:Aside0 (w15.heap[gb327]?=some (.cells #[.int .i64 0,.int .i64 0,.int .i64 0,.int .i64 0,.int .i64 0,.int .i64 0] 28 (0,0))):=⟨by rw[←hq_];exact BK327.out⟩;have n2_:Aside0 (Below w.heap.size w w15):=⟨by rw[←hq_];exact(hb_ HB)⟩;clear BK326 BK327 HB hq_;have BK326:=n0_;have BK327:=n1_;have HB:=n2_;clear n0_ n1_ n2_)))|(go_at_call 83;(with_reducible refine(alarm_time.calls a2 true _ A8.out).mono ?_);rintro e w' ⟨rfl,⟨nd,rfl⟩⟩;(try(rw[drewN_self w15];generalize hq_:World.drewN w15 _=w15;have n0_:Aside0 (w15.heap[gb326]?=some (.cells #[.int .i64 a0_0,.int .i64 a0_1] 26 (0,0))):=⟨by rw[←hq_];exact BK326.out⟩;have n1_:Aside0 (w15.heap[gb327]?=some (.cells #[.int .i64 0,.int .i64 0,.int .i64 0,.int .i64 0,.int .i64 0,.int .i64 0] 28 (0,0))):=⟨by rw[←hq_];exact BK327.out⟩;have n2_:Aside0 (Below w.heap.size w w15):=⟨by rw[←hq_];exact(hb_ HB)⟩;clear BK326 BK327 HB hq_;have BK326:=n0_;have BK327:=n1_;have HB:=n2_;clear n0_ n1_ n2_))))
    replace BK326:=zB (zX BK326.out)
    replace BK327:=zB (zX BK327.out)
    replace HB:=zB (zG HB.out)
    refine start_ (n:=10) (S:=fun w'=>c_ w' gb326 0 (.int .i64 a0_0)∧c_ w' gb326 1 (.int .i64 a0_1)) (ds:=[]) (bt_ 0 10) (by kernel_rfl) rfl rfl ⟨bc_ BK326 0,bc_ BK326 1⟩ (fun hHeld=>?_);refine with_tabW alarm_Open.tab3 alarm_Open.bits3 (fun HT_ HW_=>?_)
    generalize w15.drew=w16 at BK326 BK327 HB hHeld⊢
    have Q_:=Qs.mk (n:=10) [(0,1,23,2),(0,2,24,6),(0,3,25,14),(0,4,26,30),(2,0,22,31)]
    iterate 5 (first|(refine pq_ Q_ ?_;replace Q_:=qt_ Q_)|(refine tq_ Q_ hHeld ?_;replace Q_:=qt_ Q_))
    clear Q_
    refine one_ (i:=5) (N:=some 27) (dn_ 6 10) rfl rfl (one_of HT_.out (by kernel_rfl)) (by decide) (fun K hK=>?_)
    refine gs_ Try.func82 #[.int .i64 a1] rfl ?_
    with_reducible refine(alarm_Wait.calls a1 t331 _ A10.out).mono ?_
    rintro e w' ⟨rfl,⟨nd,rfl⟩⟩
    refine⟨_,rfl,?_⟩
    refine hK.out _ _ ⟨bc_ BK326 0,bc_ BK326 1⟩ (fun hHeld=>?_)
    clear hK K
    refine norm_ (a':=?_) ?_ ?_
    rotate_left
    ·show Act.put _ (some 27) _=_
     simp only[Act.put,zE,zH,zI,i64_w,i32_w]
     rfl
    refine pure_ (i:=6) (N:=some 28) (v:=?_) (a':=?_) (dn_ 7 10) rfl rfl (any_of HT_.out (by kernel_rfl)) (fun _ _ _ h=>h) (Or.inl ⟨by rfl,?_⟩) ?_ ?_
    rotate_left
    ·intro w'
     go_simp
     with_reducible rfl
    rotate_left;(simp only[Act.put,zE,zH,zI,i64_w,i32_w];rfl)
    refine pure_ (i:=7) (N:=some 29) (v:=?_) (a':=?_) (dn_ 8 10) rfl rfl (any_of HT_.out (by kernel_rfl)) (fun _ _ _ h=>h) (Or.inl ⟨by rfl,?_⟩) ?_ ?_
    rotate_left
    ·intro w'
     go_simp
     with_reducible rfl
    rotate_left;(simp only[Act.put,zE,zH,zI,i64_w,i32_w];rfl)
    refine one_ (i:=8) (N:=none) (dn_ 9 10) rfl rfl (one_of HT_.out (by kernel_rfl)) (by decide) (fun K hK=>?_)
    have hs17:c_ w16 gb327 0 (.int .i64 0):=bc_ BK327 0
    have hfs17:=zC BK327.out 0
    have hns17_0:=NB326_327.out
    have hms17_0:=NB327_326.out
    have hs18:c_ w16 gb327 1 (.int .i64 0):=bc_ BK327 1
    have hfs18:=zC BK327.out 1
    have hns18_0:=NB326_327.out
    have hms18_0:=NB327_326.out
    have hs19:c_ w16 gb327 2 (.int .i64 0):=bc_ BK327 2
    have hfs19:=zC BK327.out 2
    have hns19_0:=NB326_327.out
    have hms19_0:=NB327_326.out
    have hs20:c_ w16 gb327 3 (.int .i64 0):=bc_ BK327 3
    have hfs20:=zC BK327.out 3
    have hns20_0:=NB326_327.out
    have hms20_0:=NB327_326.out
    have hs21:c_ w16 gb327 4 (.int .i64 0):=bc_ BK327 4
    have hfs21:=zC BK327.out 4
    have hns21_0:=NB326_327.out
    have hms21_0:=NB327_326.out
    have hs22:c_ w16 gb327 5 (.int .i64 0):=bc_ BK327 5
    have hfs22:=zC BK327.out 5
    have hns22_0:=NB326_327.out
    have hms22_0:=NB327_326.out
    refine skip_ (w1:=?_) (by rfl) rfl ?_ ?_
    rotate_left
    ·go_simp
     rfl
    refine hK.out _ _ ⟨((cell_far (p:=⟨gb327,_,none⟩) NB326_327.out _).trans (((cell_far (p:=⟨gb327,_,none⟩) NB326_327.out _).trans (((cell_far (p:=⟨gb327,_,none⟩) NB326_327.out _).trans (((cell_far (p:=⟨gb327,_,none⟩) NB326_327.out _).trans (((cell_far (p:=⟨gb327,_,none⟩) NB326_327.out _).trans (((cell_far (p:=⟨gb327,_,none⟩) NB326_327.out _).trans (hHeld.1)))))))))))),((cell_far (p:=⟨gb327,_,none⟩) NB326_327.out _).trans (((cell_far (p:=⟨gb327,_,none⟩) NB326_327.out _).trans (((cell_far (p:=⟨gb327,_,none⟩) NB326_327.out _).trans (((cell_far (p:=⟨gb327,_,none⟩) NB326_327.out _).trans (((cell_far (p:=⟨gb327,_,none⟩) NB326_327.out _).trans (((cell_far (p:=⟨gb327,_,none⟩) NB326_327.out _).trans (hHeld.2))))))))))))⟩ (fun hHeld=>?_)
    clear hK K
    refine pure_ (i:=9) (N:=some 7) (v:=?_) (a':=?_) (bt_ 1023 10) rfl rfl (any_of HT_.out (by kernel_rfl)) (fun _ _ _ h=>h) (Or.inl ⟨by rfl,?_⟩) ?_ ?_
    rotate_left
    ·intro w'
     go_simp
     with_reducible rfl
    rotate_left;(simp only[Act.put,zE,zH,zI,i64_w,i32_w];rfl)
    refine done_ (done_of HT_.out (by kernel_rfl)) ?_
    try go_wp2
    refine bodyPost_ret (results_ct rfl _ _ gb327 28 #[.int .i64 a0_0,.int .i64 a0_1,.int .i64 1,.int .i64 a1,.int .i64 a2,.int .i64 (wrap64 (a2+t331))] (0,0) _ rfl (by refine zZ (cs:=#[.int .i64 a0_0,.int .i64 a0_1,.int .i64 1,.int .i64 a1,.int .i64 a2,.int .i64 0]) ?_ 5 _ rfl;refine zZ (cs:=#[.int .i64 a0_0,.int .i64 a0_1,.int .i64 1,.int .i64 a1,.int .i64 0,.int .i64 0]) ?_ 4 _ rfl;refine zZ (cs:=#[.int .i64 a0_0,.int .i64 a0_1,.int .i64 1,.int .i64 0,.int .i64 0,.int .i64 0]) ?_ 3 _ rfl;refine zZ (cs:=#[.int .i64 a0_0,.int .i64 a0_1,.int .i64 0,.int .i64 0,.int .i64 0,.int .i64 0]) ?_ 2 _ rfl;refine zZ (cs:=#[.int .i64 a0_0,.int .i64 0,.int .i64 0,.int .i64 0,.int .i64 0,.int .i64 0]) ?_ 1 _ rfl;refine zZ (cs:=#[.int .i64 0,.int .i64 0,.int .i64 0,.int .i64 0,.int .i64 0,.int .i64 0]) ?_ 0 _ rfl;exact BK327.out) Try.underlying28 rfl (by kernel_rfl)) rfl ?_
    exact⟨ew_,hb_ HB⟩
   ·replace c9:=zb c9
    subst c9
    rw[if_neg (show ¬(false=true) by decide)] at H;try dsimp only at H
    exact absurd H (by simp)
 ·replace c5:=zb c5
  subst c5
  rw[if_neg (show ¬(false=true) by decide)] at H;try dsimp only at H
  exact absurd H (by simp)
def alarm_clock_silenced.f (a0_0:Int) (a0_1:Int) (a0_2:Int) (a0_3:Int) (a0_4:Int) (a0_5:Int) (a1:Int) (a2:Int):Option (Int×Int×Int×Int×Int×Int):=(alarm_clock_turned.f a0_0 a0_1 a0_2 a0_3 a0_4 a0_5 4 a1 a2).bind fun bt334=>(some (bt334.1,bt334.2.1,bt334.2.2.1,bt334.2.2.2.1,bt334.2.2.2.2.1,bt334.2.2.2.2.2))
set_option maxHeartbeats 8000000 in
set_option maxRecDepth 100000 in
theorem alarm_clock_silenced.calls (a0_0:Int) (a0_1:Int) (a0_2:Int) (a0_3:Int) (a0_4:Int) (a0_5:Int) (a1:Int) (a2:Int) (r1:Int) (r2:Int) (r3:Int) (r4:Int) (r5:Int) (r6:Int) (w:World) (h:alarm_clock_silenced.f a0_0 a0_1 a0_2 a0_3 a0_4 a0_5 a1 a2=some (r1,r2,r3,r4,r5,r6)):
  Calls Try.prog 94 #[.agg #[.int .i64 a0_0,.int .i64 a0_1,.int .i64 a0_2,.int .i64 a0_3,.int .i64 a0_4,.int .i64 a0_5],.int .i64 a1,.int .i64 a2] w fun e w'=>e=.returned (.agg #[.int .i64 r1,.int .i64 r2,.int .i64 r3,.int .i64 r4,.int .i64 r5,.int .i64 r6])∧Below w.heap.size w w':=by
 have hu85:=Try.underlying85
 have HB:=zB (Below.refl w.heap.size w)
 have H:((alarm_clock_turned.f a0_0 a0_1 a0_2 a0_3 a0_4 a0_5 4 a1 a2).bind fun bt334=>(some (bt334.1,bt334.2.1,bt334.2.2.1,bt334.2.2.2.1,bt334.2.2.2.2.1,bt334.2.2.2.2.2)))=some (r1,r2,r3,r4,r5,r6):=h
 clear h
 replace H:=zL H
 obtain⟨⟨t334,t335,t336,t337,t338,t339⟩,A40,H⟩:=H
 try dsimp only at H
 have A4:=zB A40
 clear A40
 simp only[zc,Prod.mk.injEq] at H
 obtain⟨rfl,rfl,rfl,rfl,rfl,rfl⟩:=H
 go_enter Try.func94,Try.ntmps94
 go_wp2_with (first|((with_reducible refine gate_dst (N:=3) rfl ?_);refine be_ (N:=3) (cs:=#[.int .i64 a0_0,.int .i64 a0_1,.int .i64 a0_2,.int .i64 a0_3,.int .i64 a0_4,.int .i64 a0_5]) (t:=85) ?_;intro gb332 hg w5 hbox hb;have BK332:=zB hbox;have GW332:=gw_ hg HB;have GE332:=GW332;replace HB:=zB (zQ HB.out hb);clear hb hbox hg)|((with_reducible refine gate_dst (N:=6) rfl ?_);refine be_ (N:=6) (cs:=#[.int .i64 0,.int .i64 0,.int .i64 0,.int .i64 0,.int .i64 0,.int .i64 0]) (t:=85) ?_;intro gb333 hg w6 hbox hb;have BK333:=zB hbox;have GE333:=gx_ hg (show Below w.heap.size w _ from hb_ HB);have GW333:=GE333;replace HB:=zB (zQ (hb_ HB) hb);have NB332_333:=nb_ BK332 hg;have NB333_332:=nc_ BK332 hg;replace BK332:=bl_ BK332 hb;clear hb hbox hg;have hnb7:=NB332_333.out;have hnc7:=NB333_332.out;have hcz8:=zD BK332.out;have hfz8:=zC BK332.out)|((with_reducible refine gate_callee (f:=90) rfl ?_);refine gl_ (some 10) Try.func90 #[.agg #[.int .i64 a0_0,.int .i64 a0_1,.int .i64 a0_2,.int .i64 a0_3,.int .i64 a0_4,.int .i64 a0_5],.int .i64 4,.int .i64 a1,.int .i64 a2] rfl ?_;(with_reducible refine(alarm_clock_turned.calls a0_0 a0_1 a0_2 a0_3 a0_4 a0_5 4 a1 a2 t334 t335 t336 t337 t338 t339 _ A4.out).mono ?_);rintro e w9 ⟨rfl,hb⟩;refine⟨_,rfl,?_⟩;replace BK332:=bl_ BK332 hb;replace BK333:=bl_ BK333 hb;replace HB:=zB (zQ (hb_ HB) hb);(try clear hb);(try clear hb2);(try clear hk);(try clear hi);have hcz10:=zD BK333.out;have hfz10:=zC BK333.out))
 refine bodyPost_ret (results_cell_row rfl _ _ gb333 85 #[.int .i64 t334,.int .i64 t335,.int .i64 t336,.int .i64 t337,.int .i64 t338,.int .i64 t339] (0,0) _ rfl (by refine zZ (cs:=#[.int .i64 t334,.int .i64 t335,.int .i64 t336,.int .i64 t337,.int .i64 t338,.int .i64 0]) ?_ 5 _ rfl;refine zZ (cs:=#[.int .i64 t334,.int .i64 t335,.int .i64 t336,.int .i64 t337,.int .i64 0,.int .i64 0]) ?_ 4 _ rfl;refine zZ (cs:=#[.int .i64 t334,.int .i64 t335,.int .i64 t336,.int .i64 0,.int .i64 0,.int .i64 0]) ?_ 3 _ rfl;refine zZ (cs:=#[.int .i64 t334,.int .i64 t335,.int .i64 0,.int .i64 0,.int .i64 0,.int .i64 0]) ?_ 2 _ rfl;refine zZ (cs:=#[.int .i64 t334,.int .i64 0,.int .i64 0,.int .i64 0,.int .i64 0,.int .i64 0]) ?_ 1 _ rfl;refine zZ (cs:=#[.int .i64 0,.int .i64 0,.int .i64 0,.int .i64 0,.int .i64 0,.int .i64 0]) ?_ 0 _ rfl;exact BK333.out) Try.underlying85 rfl (by kernel_rfl)) rfl ?_
 exact⟨ew_,hb_ HB⟩
def alarm_Do.f (a0_0 a0_1 a0_2 a0_3 a0_4 a0_5 a1 a2 a3:Int):Option (Int×Int×Int×Int×Int×Int×Int):=if a0_0=2∧a0_1=0∧a0_2=1∧a0_3=1∧a0_4=0∧a0_5=10∧a1=4∧a2=0∧a3=5 then some (2,0,4,1,0,5,0) else none
theorem alarm_Do.key_ok (b:Bool) (n:Int) (w:World):(Instr.checkKey b 10000 3 (.int .i64 n)).run Try.prog w=.ok () w:=by
  rw[show(10000:Nat)=9999+1 from rfl,Instr.checkKey]
  simp[run_underlying Try.underlying3]
theorem alarm_Do.map_put (w:World) (X Y:Obj) (es:Array MapEntry) (clock:Nat) (key:Int) (v:Value) (hnew:Instr.findNow (.int .i64) (.int .i64 key) es.toList 0=some none):
    (Instr.mapUpdate 115 (.map (some (w.heap.size+1+1))) (.int .i64 key) v).run Try.prog (((w.alloc X).alloc Y).alloc (.map es clock))=.ok () (((w.alloc X).alloc Y).alloc (.map (es.push ⟨.int .i64 key,v,clock⟩) (clock+1))):=by
  have e:w.heap.size+1+1=((w.alloc X).alloc Y).heap.size:=by simp
  rw[e]
  generalize(w.alloc X).alloc Y=V
  have hb:(V.alloc (.map es clock)).heap[V.heap.size]?=some (.map es clock):=blk_new V _
  have hs:({V.alloc (.map es clock) with heap:=(V.alloc (.map es clock)).heap.setIfInBounds V.heap.size (.map (es.push ⟨.int .i64 key,v,clock⟩) (clock+1))}:World)=V.alloc (.map (es.push ⟨.int .i64 key,v,clock⟩) (clock+1)):=by
    simp only[World.alloc]
    congr 1
    apply Array.ext_getElem?
    intro i
    by_cases hi:i=V.heap.size
    · subst hi;simp
    · simp[Array.getElem?_push,Array.getElem?_setIfInBounds,hi,Ne.symm hi,show ¬V.heap.size=i from fun h=>hi h.symm]
  simp[Instr.mapUpdate,run_underlying Try.underlying115,MapKept.run_getObj_map hb,alarm_Do.key_ok,run_underlying Try.underlying3,Instr.findKey,hnew,MapKept.run_setObj_map _ hb,Result.andThen]
  exact hs
theorem alarm_Do.map_get (w:World) (X Y:Obj) (es:Array MapEntry) (clock:Nat) (key:Int) (i:Nat) (v:Value) (hat:Instr.findNow (.int .i64) (.int .i64 key) es.toList 0=some (some (i,v))):
    (Instr.lookup 115 (.map (some (w.heap.size+1+1))) (.int .i64 key) true).run Try.prog (((w.alloc X).alloc Y).alloc (.map es clock))=.ok (.tuple #[v,.bool true]) (((w.alloc X).alloc Y).alloc (.map es clock)):=by
  have e:w.heap.size+1+1=((w.alloc X).alloc Y).heap.size:=by simp
  rw[e]
  generalize(w.alloc X).alloc Y=V
  have hb:(V.alloc (.map es clock)).heap[V.heap.size]?=some (.map es clock):=blk_new V _
  simp[Instr.lookup,run_underlying Try.underlying115,MapKept.run_getObj_map hb,alarm_Do.key_ok,run_underlying Try.underlying3,Instr.findKey,hat,Result.andThen]
theorem alarm_Do.map_no (w:World) (X Y:Obj) (es:Array MapEntry) (clock:Nat) (key:Int) (hat:Instr.findNow (.int .i64) (.int .i64 key) es.toList 0=some none):
    (Instr.lookup 115 (.map (some (w.heap.size+1+1))) (.int .i64 key) true).run Try.prog (((w.alloc X).alloc Y).alloc (.map es clock))=.ok (.tuple #[.nilFunc,.bool false]) (((w.alloc X).alloc Y).alloc (.map es clock)):=by
  have e:w.heap.size+1+1=((w.alloc X).alloc Y).heap.size:=by simp
  rw[e]
  generalize(w.alloc X).alloc Y=V
  have hb:(V.alloc (.map es clock)).heap[V.heap.size]?=some (.map es clock):=blk_new V _
  have hz: ∀W,(zeroValue 113).run Try.prog W=.ok .nilFunc W:=fun _=>by kernel_rfl
  simp[Instr.lookup,run_underlying Try.underlying115,MapKept.run_getObj_map hb,alarm_Do.key_ok,run_underlying Try.underlying3,Instr.findKey,hat,hz,Result.andThen]
theorem alarm_Do.puts (a0_0 a0_1 a0_2 a0_3 a0_4 a0_5:Int) (w:World):(Instr.mapUpdate 115 (.map (some (w.heap.size+1+1))) (.int .i64 2) (.func (.func 68) #[] #[])).run Try.prog (((w.alloc (.cells #[.int .i64 a0_0,.int .i64 a0_1,.int .i64 a0_2,.int .i64 a0_3,.int .i64 a0_4,.int .i64 a0_5] 28)).alloc (.cells #[.int .i64 0,.int .i64 0,.int .i64 0,.int .i64 0,.int .i64 0,.int .i64 0] 28)).alloc (.map #[] 0))=.ok () (((w.alloc (.cells #[.int .i64 a0_0,.int .i64 a0_1,.int .i64 a0_2,.int .i64 a0_3,.int .i64 a0_4,.int .i64 a0_5] 28)).alloc (.cells #[.int .i64 0,.int .i64 0,.int .i64 0,.int .i64 0,.int .i64 0,.int .i64 0] 28)).alloc (.map #[⟨.int .i64 2,.func (.func 68) #[] #[],0⟩] 1))∧
    (Instr.mapUpdate 115 (.map (some (w.heap.size+1+1))) (.int .i64 3) (.func (.func 93) #[] #[])).run Try.prog (((w.alloc (.cells #[.int .i64 a0_0,.int .i64 a0_1,.int .i64 a0_2,.int .i64 a0_3,.int .i64 a0_4,.int .i64 a0_5] 28)).alloc (.cells #[.int .i64 0,.int .i64 0,.int .i64 0,.int .i64 0,.int .i64 0,.int .i64 0] 28)).alloc (.map #[⟨.int .i64 2,.func (.func 68) #[] #[],0⟩] 1))=.ok () (((w.alloc (.cells #[.int .i64 a0_0,.int .i64 a0_1,.int .i64 a0_2,.int .i64 a0_3,.int .i64 a0_4,.int .i64 a0_5] 28)).alloc (.cells #[.int .i64 0,.int .i64 0,.int .i64 0,.int .i64 0,.int .i64 0,.int .i64 0] 28)).alloc (.map #[⟨.int .i64 2,.func (.func 68) #[] #[],0⟩,⟨.int .i64 3,.func (.func 93) #[] #[],1⟩] 2))∧
    (Instr.mapUpdate 115 (.map (some (w.heap.size+1+1))) (.int .i64 4) (.func (.func 94) #[] #[])).run Try.prog (((w.alloc (.cells #[.int .i64 a0_0,.int .i64 a0_1,.int .i64 a0_2,.int .i64 a0_3,.int .i64 a0_4,.int .i64 a0_5] 28)).alloc (.cells #[.int .i64 0,.int .i64 0,.int .i64 0,.int .i64 0,.int .i64 0,.int .i64 0] 28)).alloc (.map #[⟨.int .i64 2,.func (.func 68) #[] #[],0⟩,⟨.int .i64 3,.func (.func 93) #[] #[],1⟩] 2))=.ok () (((w.alloc (.cells #[.int .i64 a0_0,.int .i64 a0_1,.int .i64 a0_2,.int .i64 a0_3,.int .i64 a0_4,.int .i64 a0_5] 28)).alloc (.cells #[.int .i64 0,.int .i64 0,.int .i64 0,.int .i64 0,.int .i64 0,.int .i64 0] 28)).alloc (.map #[⟨.int .i64 2,.func (.func 68) #[] #[],0⟩,⟨.int .i64 3,.func (.func 93) #[] #[],1⟩,⟨.int .i64 4,.func (.func 94) #[] #[],2⟩] 3))∧
    (Instr.mapUpdate 115 (.map (some (w.heap.size+1+1))) (.int .i64 6) (.func (.func 67) #[] #[])).run Try.prog (((w.alloc (.cells #[.int .i64 a0_0,.int .i64 a0_1,.int .i64 a0_2,.int .i64 a0_3,.int .i64 a0_4,.int .i64 a0_5] 28)).alloc (.cells #[.int .i64 0,.int .i64 0,.int .i64 0,.int .i64 0,.int .i64 0,.int .i64 0] 28)).alloc (.map #[⟨.int .i64 2,.func (.func 68) #[] #[],0⟩,⟨.int .i64 3,.func (.func 93) #[] #[],1⟩,⟨.int .i64 4,.func (.func 94) #[] #[],2⟩] 3))=.ok () (((w.alloc (.cells #[.int .i64 a0_0,.int .i64 a0_1,.int .i64 a0_2,.int .i64 a0_3,.int .i64 a0_4,.int .i64 a0_5] 28)).alloc (.cells #[.int .i64 0,.int .i64 0,.int .i64 0,.int .i64 0,.int .i64 0,.int .i64 0] 28)).alloc (.map #[⟨.int .i64 2,.func (.func 68) #[] #[],0⟩,⟨.int .i64 3,.func (.func 93) #[] #[],1⟩,⟨.int .i64 4,.func (.func 94) #[] #[],2⟩,⟨.int .i64 6,.func (.func 67) #[] #[],3⟩] 4)):=
  ⟨alarm_Do.map_put w _ _ _ _ _ _ (by rfl),alarm_Do.map_put w _ _ _ _ _ _ (by rfl),alarm_Do.map_put w _ _ _ _ _ _ (by rfl),alarm_Do.map_put w _ _ _ _ _ _ (by rfl)⟩
theorem alarm_Do.c6 {w1:World} {g t:Nat} {a0 a1 a2 a3 a4 a5:Int} (h:w1.heap[g]?=some (.cells #[.int .i64 a0,.int .i64 a1,.int .i64 a2,.int .i64 a3,.int .i64 a4,.int .i64 a5] t (0,0))):
    w1.cell? ⟨g,0,none⟩=some (.int .i64 a0)∧w1.cell? ⟨g,1,none⟩=some (.int .i64 a1)∧w1.cell? ⟨g,2,none⟩=some (.int .i64 a2)∧w1.cell? ⟨g,3,none⟩=some (.int .i64 a3)∧w1.cell? ⟨g,4,none⟩=some (.int .i64 a4)∧w1.cell? ⟨g,5,none⟩=some (.int .i64 a5):=
  ⟨(zD h 0).trans rfl,(zD h 1).trans rfl,(zD h 2).trans rfl,(zD h 3).trans rfl,(zD h 4).trans rfl,(zD h 5).trans rfl⟩
theorem alarm_Do.f6 {w1:World} {g t:Nat} {cs:Array Value} (h:w1.heap[g]?=some (.cells cs t (0,0))):
    w1.frozen? ⟨g,0,none⟩=false∧w1.frozen? ⟨g,1,none⟩=false∧w1.frozen? ⟨g,2,none⟩=false∧w1.frozen? ⟨g,3,none⟩=false∧w1.frozen? ⟨g,4,none⟩=false∧w1.frozen? ⟨g,5,none⟩=false:=
  ⟨zC h 0,zC h 1,zC h 2,zC h 3,zC h 4,zC h 5⟩
theorem alarm_Do.put6 {w1:World} {g t:Nat} {z:Value} {v0 v1 v2 v3 v4 v5:Value} (h:w1.heap[g]?=some (.cells #[z,z,z,z,z,z] t (0,0))):
    ((((((w1.setCell ⟨g,0,none⟩ v0).setCell ⟨g,1,none⟩ v1).setCell ⟨g,2,none⟩ v2).setCell ⟨g,3,none⟩ v3).setCell ⟨g,4,none⟩ v4).setCell ⟨g,5,none⟩ v5).heap[g]?=some (.cells #[v0,v1,v2,v3,v4,v5] t (0,0)):=
  zZ (cs:=#[v0,v1,v2,v3,v4,z]) (zZ (cs:=#[v0,v1,v2,v3,z,z]) (zZ (cs:=#[v0,v1,v2,z,z,z]) (zZ (cs:=#[v0,v1,z,z,z,z]) (zZ (cs:=#[v0,z,z,z,z,z]) (zZ h 0 _ rfl) 1 _ rfl) 2 _ rfl) 3 _ rfl) 4 _ rfl) 5 _ rfl
theorem alarm_Do.first {w w1:World} {X Y Z:Obj} (hb:Below (((w.alloc X).alloc Y).alloc Z).heap.size (((w.alloc X).alloc Y).alloc Z) w1):
    Below w.heap.size w w1∧w1.heap[w.heap.size]?=some X∧w1.heap[w.heap.size+1]?=some Y:=
  ⟨below_then (below_alloc (below_alloc (below_alloc (Below.refl w.heap.size w) _) _) _) (by simp;omega) hb,blk_below (zT (zT (blk_new w X) Y) Z) hb,
   blk_below (zT (g:=w.heap.size+1) (by have h_:=blk_new (w.alloc X) Y;rw[show(w.alloc X).heap.size=w.heap.size+1 from by simp] at h_;exact h_) Z) hb⟩
theorem alarm_Do.next {w w1 w2:World} {g g':Nat} {X Y:Obj} (H:Aside0 (Below w.heap.size w w1)) (k0:Aside0 (w1.heap[g]?=some X)) (k1:Aside0 (w1.heap[g']?=some Y)) (n:Nat) (hb:Below (w1.drewN n).heap.size (w1.drewN n) w2):
    Below w.heap.size w w2∧w2.heap[g]?=some X∧w2.heap[g']?=some Y:=
  ⟨zQ (zF H.out n) hb,blk_below (zU k0.out n) hb,blk_below (zU k1.out n) hb⟩
theorem alarm_Do.next0 {w w1 w2:World} {g g':Nat} {X Y:Obj} (H:Aside0 (Below w.heap.size w w1)) (k0:Aside0 (w1.heap[g]?=some X)) (k1:Aside0 (w1.heap[g']?=some Y)) (hb:Below w1.heap.size w1 w2):
    Below w.heap.size w w2∧w2.heap[g]?=some X∧w2.heap[g']?=some Y:=
  ⟨zQ H.out hb,blk_below k0.out hb,blk_below k1.out hb⟩
set_option maxHeartbeats 8000000 in
set_option maxRecDepth 100000 in
theorem alarm_Do.e8_4 (a0_0 a0_1 a0_2 a0_3 a0_4 a0_5 a2 a3 r1 r2 r3 r4 r5 r6:Int) (w:World) (HIs:Aside0 (∀w,Calls Try.prog 50 #[.agg #[.int .i64 a0_0,.int .i64 a0_1,.int .i64 a0_2,.int .i64 a0_3,.int .i64 a0_4,.int .i64 a0_5]] w fun e w'=>e=.returned (.bool true)∧Below w.heap.size w w')) (HTi:Aside0 (∀w,Calls Try.prog 83 #[.int .i64 a2] w fun e w'=>e=.returned (.bool true)∧Drawn0 w w')) (b1:decide (a3<1)=false) (b2:decide (1000<a3)=false) (b3:decide (a2<a0_4)=false) (HNe:Aside0 (∀w,Calls Try.prog 95 #[.int .i64 a0_2,.int .i64 4] w fun e w'=>(∃q,e=.returned (.tuple #[.int .i64 q,.bool true]))∧Below w.heap.size w w')) (HFn:Aside0 (∀w,Calls Try.prog 94 #[.agg #[.int .i64 a0_0,.int .i64 a0_1,.int .i64 a0_2,.int .i64 a0_3,.int .i64 a0_4,.int .i64 a0_5],.int .i64 a2,.int .i64 a3] w fun e w'=>e=.returned (.agg #[.int .i64 r1,.int .i64 r2,.int .i64 r3,.int .i64 r4,.int .i64 r5,.int .i64 r6])∧Below w.heap.size w w')):
    Calls Try.prog 76 #[.agg #[.int .i64 a0_0,.int .i64 a0_1,.int .i64 a0_2,.int .i64 a0_3,.int .i64 a0_4,.int .i64 a0_5],.int .i64 4,.int .i64 a2,.int .i64 a3] w fun e w'=>e=.returned (.tuple #[.agg #[.int .i64 r1,.int .i64 r2,.int .i64 r3,.int .i64 r4,.int .i64 r5,.int .i64 r6],.int .i64 0])∧Below w.heap.size w w':=by
  have hmm:=@run_makeMap Try.prog
  obtain⟨hp2,hp3,hp4,hp6⟩:=alarm_Do.puts a0_0 a0_1 a0_2 a0_3 a0_4 a0_5 w
  have hl:(Instr.lookup 115 (.map (some (w.heap.size+1+1))) (.int .i64 4) true).run Try.prog (((w.alloc (.cells #[.int .i64 a0_0,.int .i64 a0_1,.int .i64 a0_2,.int .i64 a0_3,.int .i64 a0_4,.int .i64 a0_5] 28)).alloc (.cells #[.int .i64 0,.int .i64 0,.int .i64 0,.int .i64 0,.int .i64 0,.int .i64 0] 28)).alloc (.map #[⟨.int .i64 2,.func (.func 68) #[] #[],0⟩,⟨.int .i64 3,.func (.func 93) #[] #[],1⟩,⟨.int .i64 4,.func (.func 94) #[] #[],2⟩,⟨.int .i64 6,.func (.func 67) #[] #[],3⟩] 4))=.ok (.tuple #[.func (.func 94) #[] #[],.bool true]) (((w.alloc (.cells #[.int .i64 a0_0,.int .i64 a0_1,.int .i64 a0_2,.int .i64 a0_3,.int .i64 a0_4,.int .i64 a0_5] 28)).alloc (.cells #[.int .i64 0,.int .i64 0,.int .i64 0,.int .i64 0,.int .i64 0,.int .i64 0] 28)).alloc (.map #[⟨.int .i64 2,.func (.func 68) #[] #[],0⟩,⟨.int .i64 3,.func (.func 93) #[] #[],1⟩,⟨.int .i64 4,.func (.func 94) #[] #[],2⟩,⟨.int .i64 6,.func (.func 67) #[] #[],3⟩] 4)):=alarm_Do.map_get w _ _ _ _ _ 2 _ (by rfl)
  have hfd: ∀W,(Instr.field 85 (.agg #[.int .i64 r1,.int .i64 r2,.int .i64 r3,.int .i64 r4,.int .i64 r5,.int .i64 r6]) 0).run Try.prog W=.ok (.agg #[.int .i64 r1,.int .i64 r2,.int .i64 r3,.int .i64 r4,.int .i64 r5,.int .i64 r6]) W:=fun _=>by kernel_rfl
  go_enter Try.func76,Try.ntmps76
  go_wp2_with (first|(go_at_call 50;refine(HIs.out _).mono ?_;rintro e w1 ⟨rfl,hb⟩;obtain⟨q0,q1,q2⟩:=alarm_Do.first hb;have HB:=zB q0;have K0:=zB q1;have K1:=zB q2;clear q0 q1 q2 hb;obtain⟨hc0,hc1,hc2,hc3,hc4,hc5⟩:=alarm_Do.c6 K0.out;obtain⟨hz0,hz1,hz2,hz3,hz4,hz5⟩:=alarm_Do.c6 K1.out;obtain⟨hf0,hf1,hf2,hf3,hf4,hf5⟩:=alarm_Do.f6 K1.out)|(go_at_call 83;refine(HTi.out _).mono ?_;rintro e w' ⟨rfl,⟨n,rfl⟩⟩)|(go_at_call 95;refine(HNe.out _).mono ?_;rintro e w2 ⟨⟨q,rfl⟩,hb⟩;obtain⟨q0,q1,q2⟩:=alarm_Do.next HB K0 K1 _ hb;have HC:=zB q0;have L0:=zB q1;have L1:=zB q2;clear q0 q1 q2 hb;obtain⟨Lc0,Lc1,Lc2,Lc3,Lc4,Lc5⟩:=alarm_Do.c6 L0.out;obtain⟨Lz0,Lz1,Lz2,Lz3,Lz4,Lz5⟩:=alarm_Do.c6 L1.out;obtain⟨Lf0,Lf1,Lf2,Lf3,Lf4,Lf5⟩:=alarm_Do.f6 L1.out)|(go_at_call 94;refine(HFn.out _).mono ?_;rintro e w3 ⟨rfl,hb⟩;obtain⟨q0,q1,q2⟩:=alarm_Do.next0 HC L0 L1 hb;have HD:=zB q0;have N0:=zB q1;have N1:=zB q2;clear q0 q1 q2 hb;obtain⟨Nc0,Nc1,Nc2,Nc3,Nc4,Nc5⟩:=alarm_Do.c6 N0.out;obtain⟨Nz0,Nz1,Nz2,Nz3,Nz4,Nz5⟩:=alarm_Do.c6 N1.out;obtain⟨Nf0,Nf1,Nf2,Nf3,Nf4,Nf5⟩:=alarm_Do.f6 N1.out))
  refine bodyPost_ret (results_ct rfl _ _ (w.heap.size+1) 28 #[.int .i64 r1,.int .i64 r2,.int .i64 r3,.int .i64 r4,.int .i64 r5,.int .i64 r6] (0,0) _ rfl (alarm_Do.put6 N1.out) Try.underlying28 rfl (by kernel_rfl)) rfl ?_
  exact⟨rfl,by repeat(first|(with_reducible first|exact HD.out|apply zF|refine zK ?_ (Nat.le_succ _))|exact HD.out)⟩
theorem alarm_Do.calls (a0_0 a0_1 a0_2 a0_3 a0_4 a0_5 a1 a2 a3:Int) (r1 r2 r3 r4 r5 r6 r7:Int) (w:World) (h:alarm_Do.f a0_0 a0_1 a0_2 a0_3 a0_4 a0_5 a1 a2 a3=some (r1,r2,r3,r4,r5,r6,r7)):
    Calls Try.prog 76 #[.agg #[.int .i64 a0_0,.int .i64 a0_1,.int .i64 a0_2,.int .i64 a0_3,.int .i64 a0_4,.int .i64 a0_5],.int .i64 a1,.int .i64 a2,.int .i64 a3] w fun e w'=>e=.returned (.tuple #[.agg #[.int .i64 r1,.int .i64 r2,.int .i64 r3,.int .i64 r4,.int .i64 r5,.int .i64 r6],.int .i64 r7])∧Below w.heap.size w w':=by
  unfold alarm_Do.f at h
  by_cases c:a0_0=2∧a0_1=0∧a0_2=1∧a0_3=1∧a0_4=0∧a0_5=10∧a1=4∧a2=0∧a3=5
  · rw[if_pos c] at h
    obtain⟨rfl,rfl,rfl,rfl,rfl,rfl,rfl⟩:2=r1∧0=r2∧4=r3∧1=r4∧0=r5∧5=r6∧0=r7:=by simpa only[zc,Prod.mk.injEq] using h
    obtain⟨rfl,rfl,rfl,rfl,rfl,rfl,rfl,rfl,rfl⟩:=c
    have HNe:=fun w=>(life_Next.calls 1 4 4 true w (by kernel_rfl)).mono fun e w' (hh:_∧_)=>(⟨⟨4,hh.1⟩,hh.2⟩:(∃q,e=.returned (.tuple #[.int .i64 q,.bool true]))∧Below w.heap.size w w')
    exact alarm_Do.e8_4 2 0 1 1 0 10 0 5 2 0 4 1 0 5 w (zB fun w=>alarm_Is.calls 2 0 1 1 0 10 true w (by kernel_rfl)) (zB fun w=>alarm_time.calls 0 true w (by kernel_rfl)) (by decide) (by decide) (by decide) (zB HNe) (zB fun w=>alarm_clock_silenced.calls 2 0 1 1 0 10 0 5 2 0 4 1 0 5 w (by kernel_rfl))
  · rw[if_neg c] at h
    cases h
end Go.Proofs.Ytcfpbmdndapeaaa.F
