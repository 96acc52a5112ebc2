-- Written by a program of this session (xprint.py), out of the translation and of contracts proved by hand.
import Derived.Test.YtcfpbmdndapeaaaF0
import Derived.Test.YtcfpbmdndapeaaaF17
import Derived.Test.YtcfpbmdndapeaaaF19
import Derived.Test.YtcfpbmdndapeaaaF20
namespace Go.Proofs.Ytcfpbmdndapeaaa.F
open Go.RowKit Go.Proofs.YtcfpbmdndapeaaaV.PrintWords Go.Proofs.YtcfpbmdndapeaaaV.PrintLast Go.Proofs.YtcfpbmdndapeaaaV.PrintMore
attribute [local go_sem] max2_int min2_int max_two min_two max_three min_three max_four min_four
set_option linter.unusedVariables false
set_option linter.unusedSimpArgs false
mutual
def watchmanref09_Turns.j0:Nat→Int→Bool→Int→Int→List (S28)→Option ((List (S65))×Int)
 |0,_,_,_,_,_=>none
 |k+1,x1,x19,x289000,x289001,x289002=>if x19=true then(some (([]:List (S65)),1)) else(if x1<x289001 then(some (([]:List (S65)),62)) else(watchmanref09_Turns.l0 k x1 ([]:List (S65)) 0 x289000 x289001 x289002))
def watchmanref09_Turns.l0:Nat→Int→List (S65)→Int→Int→Int→List (S28)→Option ((List (S65))×Int)
 |0,_,_,_,_,_,_=>none
 |k+1,x1,x6,x7,x289000,x289001,x289002=>if x7<(x289002.length:Int) then(if 0≤x7 then(if((rd_T28 x289002 x7).f1)=4 then(watchmanref09_Turns.j2 k x1 x6 x7 (decide (((rd_T28 x289002 x7).f4)≤x1)) x289000 x289001 x289002 ((rd_T28 x289002 x7).f0.f0) ((rd_T28 x289002 x7).f0.f1) ((rd_T28 x289002 x7).f1) ((rd_T28 x289002 x7).f2) ((rd_T28 x289002 x7).f3) ((rd_T28 x289002 x7).f4)) else(watchmanref09_Turns.j2 k x1 x6 x7 false x289000 x289001 x289002 ((rd_T28 x289002 x7).f0.f0) ((rd_T28 x289002 x7).f0.f1) ((rd_T28 x289002 x7).f1) ((rd_T28 x289002 x7).f2) ((rd_T28 x289002 x7).f3) ((rd_T28 x289002 x7).f4))) else(none)) else((watchmanref09_Order.f k x6).bind fun t290=>(some (t290,0)))
def watchmanref09_Turns.j2:Nat→Int→List (S65)→Int→Bool→Int→Int→List (S28)→Int→Int→Int→Int→Int→Int→Option ((List (S65))×Int)
 |0,_,_,_,_,_,_,_,_,_,_,_,_,_=>none
 |k+1,x1,x6,x7,x44,x289000,x289001,x289002,x295000,x295001,x295002,x295003,x295004,x295005=>if x44=true then(if x6.length<4398046511104 then((watchmanref06_Wait.f x295003).bind fun t298=>(watchmanref09_Turns.j3 k x1 (x6++[(⟨x295005,(⟨x295000,x295001⟩:S26),1⟩:S65)]) x7 x289000 x289001 x289002 x295000 x295001 1 x295003 x295004 (wrap64 (x295005+t298)))) else(none)) else(watchmanref09_Turns.j3 k x1 x6 x7 x289000 x289001 x289002 x295000 x295001 x295002 x295003 x295004 x295005)
def watchmanref09_Turns.j3:Nat→Int→List (S65)→Int→Int→Int→List (S28)→Int→Int→Int→Int→Int→Int→Option ((List (S65))×Int)
 |0,_,_,_,_,_,_,_,_,_,_,_,_=>none
 |k+1,x1,x6,x7,x289000,x289001,x289002,x295000,x295001,x295002,x295003,x295004,x295005=>if x295002=1 then(if x295005≤x1 then(if x6.length<4398046511104 then(watchmanref09_Turns.l0 k x1 (x6++[(⟨x295005,(⟨x295000,x295001⟩:S26),2⟩:S65)]) (wrap64 (x7+1)) x289000 x289001 x289002) else(none)) else(watchmanref09_Turns.l0 k x1 x6 (wrap64 (x7+1)) x289000 x289001 x289002)) else(watchmanref09_Turns.l0 k x1 x6 (wrap64 (x7+1)) x289000 x289001 x289002)
end
def watchmanref09_Turns.f (k:Nat) (a0_0:Int) (a0_1:Int) (l0_2:List (S28)) (a1:Int):Option ((List (S65))×Int):=(watchmanref08_Is.f k a0_0 a0_1 l0_2).bind fun t289=>(if t289=true then(if a1<0 then(watchmanref09_Turns.j0 k a1 true a0_0 a0_1 l0_2) else(watchmanref09_Turns.j0 k a1 (decide (a1>1000000000)) a0_0 a0_1 l0_2)) else(watchmanref09_Turns.j0 k a1 true a0_0 a0_1 l0_2))
theorem watchmanref09_Turns.mono_l: ∀k,(∀y0 y1 y2 y3 y4,LeO (watchmanref09_Turns.j0 k y0 y1 y2 y3 y4) (watchmanref09_Turns.j0 (k+1) y0 y1 y2 y3 y4))∧(∀y0 y1 y2 y3 y4 y5,LeO (watchmanref09_Turns.l0 k y0 y1 y2 y3 y4 y5) (watchmanref09_Turns.l0 (k+1) y0 y1 y2 y3 y4 y5))∧(∀y0 y1 y2 y3 y4 y5 y6 y7 y8 y9 y10 y11 y12,LeO (watchmanref09_Turns.j2 k y0 y1 y2 y3 y4 y5 y6 y7 y8 y9 y10 y11 y12) (watchmanref09_Turns.j2 (k+1) y0 y1 y2 y3 y4 y5 y6 y7 y8 y9 y10 y11 y12))∧(∀y0 y1 y2 y3 y4 y5 y6 y7 y8 y9 y10 y11,LeO (watchmanref09_Turns.j3 k y0 y1 y2 y3 y4 y5 y6 y7 y8 y9 y10 y11) (watchmanref09_Turns.j3 (k+1) y0 y1 y2 y3 y4 y5 y6 y7 y8 y9 y10 y11))
 |0=>⟨fun _ _ _ _ _ r h=>by simp[watchmanref09_Turns.j0] at h,fun _ _ _ _ _ _ r h=>by simp[watchmanref09_Turns.l0] at h,fun _ _ _ _ _ _ _ _ _ _ _ _ _ r h=>by simp[watchmanref09_Turns.j2] at h,fun _ _ _ _ _ _ _ _ _ _ _ _ r h=>by simp[watchmanref09_Turns.j3] at h⟩
 |k+1=>by
  obtain⟨ih0,ih1,ih2,ih3⟩:=watchmanref09_Turns.mono_l k
  refine⟨?_,?_,?_,?_⟩
  all_goals (intros;first|unfold watchmanref09_Turns.j0|unfold watchmanref09_Turns.l0|unfold watchmanref09_Turns.j2|unfold watchmanref09_Turns.j3)
  all_goals (repeat' first
   |(with_reducible exact ih0 _ _ _ _ _)
   |(with_reducible exact ih1 _ _ _ _ _ _)
   |(with_reducible exact ih2 _ _ _ _ _ _ _ _ _ _ _ _ _)
   |(with_reducible exact ih3 _ _ _ _ _ _ _ _ _ _ _ _)
   |(with_reducible exact watchmanref08_Is.mono _ _ _ _)
   |(with_reducible exact watchmanref09_Order.mono _ _)
   |(with_reducible exact LeO.refl _)
   |(with_reducible exact zf _)
   |(with_reducible refine zg ?_ ?_)
   |(with_reducible refine ze ?_ (fun _=>?_)))
theorem watchmanref09_Turns.mono: ∀a0 a1 a2 a3 k,LeO (watchmanref09_Turns.f k a0 a1 a2 a3) (watchmanref09_Turns.f (k+1) a0 a1 a2 a3):=by
 intro a0 a1 a2 a3 k
 obtain⟨ih0,ih1,ih2,ih3⟩:=watchmanref09_Turns.mono_l k
 unfold watchmanref09_Turns.f
 repeat' first
   |(with_reducible exact ih0 _ _ _ _ _)
   |(with_reducible exact ih1 _ _ _ _ _ _)
   |(with_reducible exact ih2 _ _ _ _ _ _ _ _ _ _ _ _ _)
   |(with_reducible exact ih3 _ _ _ _ _ _ _ _ _ _ _ _)
   |(with_reducible exact watchmanref08_Is.mono _ _ _ _)
   |(with_reducible exact watchmanref09_Order.mono _ _)
   |(with_reducible exact LeO.refl _)
   |(with_reducible exact zf _)
   |(with_reducible refine zg ?_ ?_)
   |(with_reducible refine ze ?_ (fun _=>?_))
def watchmanref09_Turns.T13:Bool×List (List Nat×List Nat):=(true,[([],[]),([0],[0]),([],[]),([2],[2]),([3],[3]),([1,4],[1,4]),([0,1,2,3,4,5],[]),([6,5,4,0,1,2,3,4,5],[5,6])])
def watchmanref09_Turns.B13:List Nat:=[0,1,0,4,12,31,63,127]
theorem watchmanref09_Turns.tab13:rtab .any (opsOf Try.f38 13)=watchmanref09_Turns.T13:=by kernel_rfl
theorem watchmanref09_Turns.bits13:waitsOk watchmanref09_Turns.T13.2 watchmanref09_Turns.B13=true:=by kernel_rfl
set_option maxHeartbeats 8000000 in
set_option maxRecDepth 100000 in
theorem watchmanref09_Turns.calls (k:Nat) (a0_0:Int) (a0_1:Int) (A0_2:Option Addr) (c0_2:Nat) (l0_2:List (S28)) (a1:Int) (r1:List (S65)) (r2:Int) (w:World) (hr0_2:Kd.C k28 w A0_2 l0_2.length l0_2) (hc0_2:l0_2.length≤c0_2) (h:watchmanref09_Turns.f k a0_0 a0_1 l0_2 a1=some (r1,r2)):
  Calls Try.prog 38 #[.agg #[.int .i64 a0_0,.int .i64 a0_1,.slice A0_2 l0_2.length c0_2],.int .i64 a1] w fun e w'=> ∃v0_:Value,e=.returned (.tuple #[v0_,.int .i64 r2])∧Kd.R k65 65 w' w.heap.size (fun _=>True) v0_ r1∧Below w.heap.size w w':=by
 have hu24:=Try.underlying24
 have hu28:=Try.underlying28
 have hu26:=Try.underlying26
 have hu65:=Try.underlying65
 have HR0_2:=zB hr0_2
 have HC0_2:=zB hc0_2
 clear hr0_2 hc0_2
 have HB:=zB (Below.refl w.heap.size w)
 have H:((watchmanref08_Is.f k a0_0 a0_1 l0_2).bind fun t289=>(if t289=true then(if a1<0 then(watchmanref09_Turns.j0 k a1 true a0_0 a0_1 l0_2) else(watchmanref09_Turns.j0 k a1 (decide (a1>1000000000)) a0_0 a0_1 l0_2)) else(watchmanref09_Turns.j0 k a1 true a0_0 a0_1 l0_2)))=some (r1,r2):=h
 clear h
 have HC3:=zB H
 clear H
 go_enter Try.func38,Try.ntmps38
 go_upto_region 1 with(first|((with_reducible refine gate_dst (N:=2) rfl ?_);refine be_ (N:=2) (cs:=#[.int .i64 a0_0,.int .i64 a0_1,.slice A0_2 l0_2.length c0_2]) (t:=24) ?_;intro gb288 hg w4 hbox hb;have BK288:=zB hbox;have GW288:=gw_ hg HB;have GE288:=GW288;replace HB:=zB (zQ HB.out hb);clear hb hbox hg))
 (try simp only[Act.put,zE,zH,zI])
 go_cut [19] (fun v19 wc=> ∃(kq:Nat) (x19_2:Bool),v19=.bool x19_2∧Aside0 (watchmanref09_Turns.j0 kq a1 x19_2 a0_0 a0_1 l0_2=some (r1,r2))∧Aside0 (kq≤k)∧Aside0 (wc.heap[gb288]?=some (.cells #[.int .i64 a0_0,.int .i64 a0_1,(.slice A0_2 l0_2.length c0_2)] 24 (0,0)))∧Aside0 (Below w.heap.size w wc))
 case first=>
  have H:=HC3.out
  clear HC3
  replace H:=zL H
  obtain⟨t289,A50,H⟩:=H
  try dsimp only at H
  have A5:=zB A50
  clear A50
  by_cases c6:t289=true
  ·subst c6
   rw[if_pos rfl] at H;try dsimp only at H
   by_cases c7:a1<0
   ·rw[if_pos c7] at H
    have c7b0:=zO c7
    clear c7
    (first|rw[c7b0]|(simp only[i64_w,i32_w];rw[c7b0])|skip)
    have H':=zB H
    clear H
    have hcz8:=zD BK288.out
    have hfz8:=zC BK288.out
    go_wp2_with (first|((with_reducible refine gate_callee (f:=33) rfl ?_);refine gl_ (some 10) Try.func33 #[.agg #[.int .i64 a0_0,.int .i64 a0_1,.slice A0_2 l0_2.length c0_2]] rfl ?_;(with_reducible refine(watchmanref08_Is.calls k a0_0 a0_1 _ _ l0_2 true _ ?side1 ?side2 A5.out).mono ?_);(case side1=>exact(Kd.C_below HR0_2.out HB.out));(case side2=>exact HC0_2.out);rintro e w9 ⟨rfl,hb⟩;refine⟨_,rfl,?_⟩;replace BK288:=bl_ BK288 hb;replace HB:=zB (zQ (hb_ HB) hb);(try clear hb);(try clear hb2);(try clear hk);(try clear hi)))
    go_meet
    case rel=>exact⟨_,(true),rs_,H',⟨by first|omega|exact za _⟩,⟨bk_ BK288⟩,⟨hb_ HB⟩⟩
   ·rw[if_neg c7] at H
    have c7b0:=zY c7
    clear c7
    (first|rw[c7b0]|(simp only[i64_w,i32_w];rw[c7b0])|skip)
    have H':=zB H
    clear H
    have hcz10:=zD BK288.out
    have hfz10:=zC BK288.out
    go_wp2_with (first|((with_reducible refine gate_callee (f:=33) rfl ?_);refine gl_ (some 10) Try.func33 #[.agg #[.int .i64 a0_0,.int .i64 a0_1,.slice A0_2 l0_2.length c0_2]] rfl ?_;(with_reducible refine(watchmanref08_Is.calls k a0_0 a0_1 _ _ l0_2 true _ ?side1 ?side2 A5.out).mono ?_);(case side1=>exact(Kd.C_below HR0_2.out HB.out));(case side2=>exact HC0_2.out);rintro e w11 ⟨rfl,hb⟩;refine⟨_,rfl,?_⟩;replace BK288:=bl_ BK288 hb;replace HB:=zB (zQ (hb_ HB) hb);(try clear hb);(try clear hb2);(try clear hk);(try clear hi)))
    go_meet
    case rel=>exact⟨_,(decide (a1>1000000000)),rs_,H',⟨by first|omega|exact za _⟩,⟨bk_ BK288⟩,⟨hb_ HB⟩⟩
  ·replace c6:=zb c6
   subst c6
   rw[if_neg (show ¬(false=true) by decide)] at H;try dsimp only at H
   have H':=zB H
   clear H
   have hcz12:=zD BK288.out
   have hfz12:=zC BK288.out
   go_wp2_with (first|((with_reducible refine gate_callee (f:=33) rfl ?_);refine gl_ (some 10) Try.func33 #[.agg #[.int .i64 a0_0,.int .i64 a0_1,.slice A0_2 l0_2.length c0_2]] rfl ?_;(with_reducible refine(watchmanref08_Is.calls k a0_0 a0_1 _ _ l0_2 false _ ?side1 ?side2 A5.out).mono ?_);(case side1=>exact(Kd.C_below HR0_2.out HB.out));(case side2=>exact HC0_2.out);rintro e w13 ⟨rfl,hb⟩;refine⟨_,rfl,?_⟩;replace BK288:=bl_ BK288 hb;replace HB:=zB (zQ (hb_ HB) hb);(try clear hb);(try clear hb2);(try clear hk);(try clear hi)))
   go_meet
   case rel=>exact⟨_,(true),rs_,H',⟨by first|omega|exact za _⟩,⟨bk_ BK288⟩,⟨hb_ HB⟩⟩
 case rest=>
  clear HC3
  try clear p2;try clear c3;try clear c6;try clear c7;try clear c7b0;try clear hcz10;try clear hcz12;try clear hcz8;try clear hfz10;try clear hfz12;try clear hfz8
  obtain⟨kq,x19_2,rfl,HA,HJ2,BK288,HB⟩:=hcut
  cases kq with
  |zero=>exact absurd HA.out (by simp[watchmanref09_Turns.j0])
  |succ kj2=>
   have H:=HA.out
   clear HA
   simp only[watchmanref09_Turns.j0] at H
   by_cases c14:x19_2=true
   ·subst c14
    rw[if_pos rfl] at H;try dsimp only at H
    simp only[zc,Prod.mk.injEq] at H
    obtain⟨rfl,rfl⟩:=H
    go_wp2
    go_ret2
    exact⟨_,ew_,by first|exact Kd.R_nil _ _ _ _ _|exact Kd.N_nil _ _ _ _ _|exact Kd.V_nil _ _ _ _ _|exact Kd.Q_nil _ _ _ _ _|exact Kd.S_nil _ _ _ _ _,hb_ HB⟩
   ·replace c14:=zb c14
    subst c14
    rw[if_neg (show ¬(false=true) by decide)] at H;try dsimp only at H
    by_cases c15:a1<a0_1
    ·rw[if_pos c15] at H
     have c15b0:=zO c15
     clear c15
     simp only[zc,Prod.mk.injEq] at H
     obtain⟨rfl,rfl⟩:=H
     have hcz16:=zD BK288.out
     have hfz16:=zC BK288.out
     go_wp2
     go_ret2
     exact⟨_,ew_,by first|exact Kd.R_nil _ _ _ _ _|exact Kd.N_nil _ _ _ _ _|exact Kd.V_nil _ _ _ _ _|exact Kd.Q_nil _ _ _ _ _|exact Kd.S_nil _ _ _ _ _,hb_ HB⟩
    ·rw[if_neg c15] at H
     have c15b0:=zY c15
     clear c15
     have H':=zB H
     clear H
     have hcz17:=zD BK288.out
     have hfz17:=zC BK288.out
     go_wp2
     go_loopg [6,7] kj2 (fun kq v6 v7 w'=> ∃(x6_2:List (S65)) (x7_2:Int),v7=.int .i64 x7_2∧Aside0 (watchmanref09_Turns.l0 kq a1 x6_2 x7_2 a0_0 a0_1 l0_2=some (r1,r2))∧Aside0 (kq≤kj2)∧Aside0 (Kd.R k65 65 w' w.heap.size (fun _=>True) v6 x6_2)∧Aside0 (w'.heap[gb288]?=some (.cells #[.int .i64 a0_0,.int .i64 a0_1,(.slice A0_2 l0_2.length c0_2)] 24 (0,0)))∧Aside0 (Below w.heap.size w w'))
     case atStart=>exact⟨(([]:List (S65))),(0),rs_,H',⟨za _⟩,⟨by first|exact Kd.R_nil _ _ _ _ _|exact Kd.N_nil _ _ _ _ _|exact Kd.V_nil _ _ _ _ _|exact Kd.Q_nil _ _ _ _ _|exact Kd.S_nil _ _ _ _ _⟩,⟨bk_ BK288⟩,⟨hb_ HB⟩⟩
     case round=>
      clear H'
      try clear c1;try clear p2;try clear c3;try clear c6;try clear c7;try clear c7b0;try clear c14;try clear c15;try clear c15b0;try clear hcz10;try clear hcz12;try clear hcz16;try clear hcz17;try clear hcz8;try clear hfz10;try clear hfz12;try clear hfz16;try clear hfz17;try clear hfz8
      obtain⟨x6_2,x7_2,rfl,HA,HK2,HO_6,BK288,HB⟩:=hrel
      cases gk with
      |zero=>exact absurd HA.out (by simp[watchmanref09_Turns.l0])
      |succ k2=>
       have H:=HA.out
       clear HA
       simp only[watchmanref09_Turns.l0] at H
       by_cases c18:x7_2<(l0_2.length:Int)
       ·rw[if_pos c18] at H
        have c18b0:=zO c18
        clear c18
        obtain⟨c19,H⟩:=gd_ H
        have c19b0:=zO c19
        clear c19
        have HC20:=zB H
        clear H
        have hcz21:=zD BK288.out
        have hfz21:=zC BK288.out
        have p293:0≤(x7_2:Int):=zJ as_
        have q293:x7_2<(l0_2.length:Int):=zJ as_
        obtain⟨ad293,e293,hx293_0,hx293_1,hx293_2,hx293_3,hx293_4,hx293_5⟩:=at_T28 HR0_2.out x7_2 p293 q293
        cases e293
        replace hx293_0:=cb_ HB hx293_0
        replace hx293_1:=cb_ HB hx293_1
        replace hx293_2:=cb_ HB hx293_2
        replace hx293_3:=cb_ HB hx293_3
        replace hx293_4:=cb_ HB hx293_4
        replace hx293_5:=cb_ HB hx293_5
        replace p293:=eq_true p293
        replace q293:=eq_true q293
        go_upto_region 10 with(first|((with_reducible refine gate_dst (N:=8) rfl ?_);refine be_ (N:=8) (cs:=#[.int .i64 0,.int .i64 0,.int .i64 0,.int .i64 0,.int .i64 0,.int .i64 0]) (t:=28) ?_;intro gb294 hg w22 hbox hb;replace HO_6:=rb_ HO_6 hb;have BK294:=zB hbox;have GE294:=gx_ hg (show Below w.heap.size w _ from hb_ HB);have GW294:=GE294;replace HB:=zB (zQ (hb_ HB) hb);have NB288_294:=nb_ BK288 hg;have NB294_288:=nc_ BK288 hg;replace BK288:=bl_ BK288 hb;clear hb hbox hg;have hnb23:=NB294_288.out;have hnc23:=NB288_294.out;have hcz24:=zD BK294.out;have hfz24:=zC BK294.out))
        (try simp only[Act.put,zE,zH,zI])
        go_cut [44] (fun v44 wc=> ∃(kq:Nat) (x44_19:Bool),v44=.bool x44_19∧Aside0 (watchmanref09_Turns.j2 kq a1 x6_2 x7_2 x44_19 a0_0 a0_1 l0_2 ((rd_T28 l0_2 x7_2).f0.f0) ((rd_T28 l0_2 x7_2).f0.f1) ((rd_T28 l0_2 x7_2).f1) ((rd_T28 l0_2 x7_2).f2) ((rd_T28 l0_2 x7_2).f3) ((rd_T28 l0_2 x7_2).f4)=some (r1,r2))∧Aside0 (kq≤k2)∧Aside0 (Kd.R k65 65 wc w.heap.size (fun _=>True) u6 x6_2)∧Aside0 (wc.heap[gb288]?=some (.cells #[.int .i64 a0_0,.int .i64 a0_1,(.slice (some ad293) l0_2.length c0_2)] 24 (0,0)))∧Aside0 (wc.heap[gb294]?=some (.cells #[.int .i64 ((rd_T28 l0_2 x7_2).f0.f0),.int .i64 ((rd_T28 l0_2 x7_2).f0.f1),.int .i64 ((rd_T28 l0_2 x7_2).f1),.int .i64 ((rd_T28 l0_2 x7_2).f2),.int .i64 ((rd_T28 l0_2 x7_2).f3),.int .i64 ((rd_T28 l0_2 x7_2).f4)] 28 (0,0)))∧Aside0 (Below w.heap.size w wc))
        case first=>
         have H:=HC20.out
         clear HC20
         by_cases c25:((rd_T28 l0_2 x7_2).f1)=4
         ·rw[if_pos c25] at H
          have c25b0:=beq_iff_eq.mpr c25
          have c25b1:=bne_eq_false_iff_eq.mpr c25
          clear c25
          (first|rw[c25b0]|(simp only[i64_w,i32_w];rw[c25b0])|skip)
          have H':=zB H
          clear H
          have hnb26:=NB294_288.out
          have hnc26:=NB288_294.out
          have hcz27:=zD BK294.out
          have hfz27:=zC BK294.out
          go_wp2
          go_meet
          case rel=>exact⟨_,(decide (((rd_T28 l0_2 x7_2).f4)≤a1)),rs_,H',⟨by have:=HJ2.out;have:=HK2.out;first|omega|exact za _⟩,⟨by(with_reducible repeat(first|apply Kd.R_alloc|apply Kd.R_drewN|apply Kd.R_drew));exact Kd.R_mono (rf6 (Kd.R_types HO_6.out BK294.out (by decide)) (fun _ hk=>hk.2) (.int .i64 ((rd_T28 l0_2 x7_2).f0.f0)) (.int .i64 ((rd_T28 l0_2 x7_2).f0.f1)) (.int .i64 ((rd_T28 l0_2 x7_2).f1)) (.int .i64 ((rd_T28 l0_2 x7_2).f2)) (.int .i64 ((rd_T28 l0_2 x7_2).f3)) (.int .i64 ((rd_T28 l0_2 x7_2).f4))) (fun _ hk=>trivial)⟩,⟨bk_ BK288⟩,⟨by(with_reducible repeat(first|refine zU ?_ _|refine zX ?_|refine zT ?_ _));refine zZ (cs:=#[.int .i64 ((rd_T28 l0_2 x7_2).f0.f0),.int .i64 ((rd_T28 l0_2 x7_2).f0.f1),.int .i64 ((rd_T28 l0_2 x7_2).f1),.int .i64 ((rd_T28 l0_2 x7_2).f2),.int .i64 ((rd_T28 l0_2 x7_2).f3),.int .i64 0]) ?_ 5 _ rfl;(with_reducible repeat(first|refine zU ?_ _|refine zX ?_|refine zT ?_ _));refine zZ (cs:=#[.int .i64 ((rd_T28 l0_2 x7_2).f0.f0),.int .i64 ((rd_T28 l0_2 x7_2).f0.f1),.int .i64 ((rd_T28 l0_2 x7_2).f1),.int .i64 ((rd_T28 l0_2 x7_2).f2),.int .i64 0,.int .i64 0]) ?_ 4 _ rfl;(with_reducible repeat(first|refine zU ?_ _|refine zX ?_|refine zT ?_ _));refine zZ (cs:=#[.int .i64 ((rd_T28 l0_2 x7_2).f0.f0),.int .i64 ((rd_T28 l0_2 x7_2).f0.f1),.int .i64 ((rd_T28 l0_2 x7_2).f1),.int .i64 0,.int .i64 0,.int .i64 0]) ?_ 3 _ rfl;(with_reducible repeat(first|refine zU ?_ _|refine zX ?_|refine zT ?_ _));refine zZ (cs:=#[.int .i64 ((rd_T28 l0_2 x7_2).f0.f0),.int .i64 ((rd_T28 l0_2 x7_2).f0.f1),.int .i64 0,.int .i64 0,.int .i64 0,.int .i64 0]) ?_ 2 _ rfl;(with_reducible repeat(first|refine zU ?_ _|refine zX ?_|refine zT ?_ _));refine zZ (cs:=#[.int .i64 ((rd_T28 l0_2 x7_2).f0.f0),.int .i64 0,.int .i64 0,.int .i64 0,.int .i64 0,.int .i64 0]) ?_ 1 _ rfl;(with_reducible repeat(first|refine zU ?_ _|refine zX ?_|refine zT ?_ _));refine zZ (cs:=#[.int .i64 0,.int .i64 0,.int .i64 0,.int .i64 0,.int .i64 0,.int .i64 0]) ?_ 0 _ rfl;(with_reducible repeat(first|refine zU ?_ _|refine zX ?_|refine zT ?_ _));exact BK294.out⟩,⟨hb_ HB⟩⟩
         ·rw[if_neg c25] at H
          have c25b0:=beq_eq_false_iff_ne.mpr c25
          have c25b1:=bne_iff_ne.mpr c25
          (first|rw[c25b0]|(simp only[i64_w,i32_w];rw[c25b0])|skip)
          have H':=zB H
          clear H
          have hnb28:=NB294_288.out
          have hnc28:=NB288_294.out
          have hcz29:=zD BK294.out
          have hfz29:=zC BK294.out
          go_wp2
          go_meet
          case rel=>exact⟨_,(false),rs_,H',⟨by have:=HJ2.out;have:=HK2.out;first|omega|exact za _⟩,⟨by(with_reducible repeat(first|apply Kd.R_alloc|apply Kd.R_drewN|apply Kd.R_drew));exact Kd.R_mono (rf6 (Kd.R_types HO_6.out BK294.out (by decide)) (fun _ hk=>hk.2) (.int .i64 ((rd_T28 l0_2 x7_2).f0.f0)) (.int .i64 ((rd_T28 l0_2 x7_2).f0.f1)) (.int .i64 ((rd_T28 l0_2 x7_2).f1)) (.int .i64 ((rd_T28 l0_2 x7_2).f2)) (.int .i64 ((rd_T28 l0_2 x7_2).f3)) (.int .i64 ((rd_T28 l0_2 x7_2).f4))) (fun _ hk=>trivial)⟩,⟨bk_ BK288⟩,⟨by(with_reducible repeat(first|refine zU ?_ _|refine zX ?_|refine zT ?_ _));refine zZ (cs:=#[.int .i64 ((rd_T28 l0_2 x7_2).f0.f0),.int .i64 ((rd_T28 l0_2 x7_2).f0.f1),.int .i64 ((rd_T28 l0_2 x7_2).f1),.int .i64 ((rd_T28 l0_2 x7_2).f2),.int .i64 ((rd_T28 l0_2 x7_2).f3),.int .i64 0]) ?_ 5 _ rfl;(with_reducible repeat(first|refine zU ?_ _|refine zX ?_|refine zT ?_ _));refine zZ (cs:=#[.int .i64 ((rd_T28 l0_2 x7_2).f0.f0),.int .i64 ((rd_T28 l0_2 x7_2).f0.f1),.int .i64 ((rd_T28 l0_2 x7_2).f1),.int .i64 ((rd_T28 l0_2 x7_2).f2),.int .i64 0,.int .i64 0]) ?_ 4 _ rfl;(with_reducible repeat(first|refine zU ?_ _|refine zX ?_|refine zT ?_ _));refine zZ (cs:=#[.int .i64 ((rd_T28 l0_2 x7_2).f0.f0),.int .i64 ((rd_T28 l0_2 x7_2).f0.f1),.int .i64 ((rd_T28 l0_2 x7_2).f1),.int .i64 0,.int .i64 0,.int .i64 0]) ?_ 3 _ rfl;(with_reducible repeat(first|refine zU ?_ _|refine zX ?_|refine zT ?_ _));refine zZ (cs:=#[.int .i64 ((rd_T28 l0_2 x7_2).f0.f0),.int .i64 ((rd_T28 l0_2 x7_2).f0.f1),.int .i64 0,.int .i64 0,.int .i64 0,.int .i64 0]) ?_ 2 _ rfl;(with_reducible repeat(first|refine zU ?_ _|refine zX ?_|refine zT ?_ _));refine zZ (cs:=#[.int .i64 ((rd_T28 l0_2 x7_2).f0.f0),.int .i64 0,.int .i64 0,.int .i64 0,.int .i64 0,.int .i64 0]) ?_ 1 _ rfl;(with_reducible repeat(first|refine zU ?_ _|refine zX ?_|refine zT ?_ _));refine zZ (cs:=#[.int .i64 0,.int .i64 0,.int .i64 0,.int .i64 0,.int .i64 0,.int .i64 0]) ?_ 0 _ rfl;(with_reducible repeat(first|refine zU ?_ _|refine zX ?_|refine zT ?_ _));exact BK294.out⟩,⟨hb_ HB⟩⟩
        case rest=>
         clear HC20
         try clear c1;try clear c2;try clear p2;try clear q2;try clear hx2;try clear c3;try clear c6;try clear c7;try clear c7b0;try clear c14;try clear c15;try clear c15b0;try clear c18;try clear c18b0;try clear c19;try clear c19b0;try clear c23;try clear c25;try clear c25b0;try clear c25b1;try clear c26;try clear c28;try clear p29;try clear q29;try clear hx29;try clear hcz10;try clear hcz12;try clear hcz16;try clear hcz17;try clear hcz21;try clear hcz24;try clear hcz27;try clear hcz29;try clear hcz8;try clear hfz10;try clear hfz12;try clear hfz16;try clear hfz17;try clear hfz21;try clear hfz24;try clear hfz27;try clear hfz29;try clear hfz8;try clear hx293_0;try clear hx293_1;try clear hx293_2;try clear hx293_3;try clear hx293_4;try clear hx293_5;try clear p293;try clear q293
         obtain⟨kq,x44_19,rfl,HA,HJ19,HO_6,BK288,BK294,HB⟩:=hcut
         cases kq with
         |zero=>exact absurd HA.out (by simp[watchmanref09_Turns.j2])
         |succ kj19=>
          have H:=HA.out
          clear HA
          simp only[watchmanref09_Turns.j2] at H
          have HC30:=zB H
          clear H
          go_upto_if 44 with(fail)
          go_cut [6] (fun v6 wc=> ∃(kq:Nat) (x6_29:List (S65)) (x295002_29:Int) (x295005_29:Int),Aside0 (watchmanref09_Turns.j3 kq a1 x6_29 x7_2 a0_0 a0_1 l0_2 ((rd_T28 l0_2 x7_2).f0.f0) ((rd_T28 l0_2 x7_2).f0.f1) x295002_29 ((rd_T28 l0_2 x7_2).f2) ((rd_T28 l0_2 x7_2).f3) x295005_29=some (r1,r2))∧Aside0 (kq≤kj19)∧Aside0 (Kd.R k65 65 wc w.heap.size (fun _=>True) v6 x6_29)∧Aside0 (wc.heap[gb288]?=some (.cells #[.int .i64 a0_0,.int .i64 a0_1,(.slice (some ad293) l0_2.length c0_2)] 24 (0,0)))∧Aside0 (wc.heap[gb294]?=some (.cells #[.int .i64 ((rd_T28 l0_2 x7_2).f0.f0),.int .i64 ((rd_T28 l0_2 x7_2).f0.f1),.int .i64 x295002_29,.int .i64 ((rd_T28 l0_2 x7_2).f2),.int .i64 ((rd_T28 l0_2 x7_2).f3),.int .i64 x295005_29] 28 (0,0)))∧Aside0 (Below w.heap.size w wc))
          case first=>
           have H:=HC30.out
           clear HC30
           by_cases c31:x44_19=true
           ·subst c31
            rw[if_pos rfl] at H;try dsimp only at H
            obtain⟨c32,H⟩:=gd_ H
            have LMc32:=zB c32
            clear c32
            obtain⟨y295,hy295⟩: ∃y_:List (S65),y_=(x6_2++[(⟨((rd_T28 l0_2 x7_2).f4),(⟨((rd_T28 l0_2 x7_2).f0.f0),((rd_T28 l0_2 x7_2).f0.f1)⟩:S26),1⟩:S65)]):=⟨_,rfl⟩
            replace H:((watchmanref06_Wait.f ((rd_T28 l0_2 x7_2).f2)).bind fun t298=>(watchmanref09_Turns.j3 kj19 a1 y295 x7_2 a0_0 a0_1 l0_2 ((rd_T28 l0_2 x7_2).f0.f0) ((rd_T28 l0_2 x7_2).f0.f1) 1 ((rd_T28 l0_2 x7_2).f2) ((rd_T28 l0_2 x7_2).f3) (wrap64 (((rd_T28 l0_2 x7_2).f4)+t298))))=some (r1,r2):=by first|(rw[hy295];with_reducible exact H)|(have H2_:=(Option.bind_some _ _).symm.trans H;rw[hy295];with_reducible exact H2_)|(have H2_:=(Option.bind_some _ _).symm.trans H;with_reducible exact H2_)|with_reducible exact H|(rw[hy295];exact H)|exact H
            have Ny295:=zB hy295
            clear hy295
            replace H:=zL H
            obtain⟨t298,A330,H⟩:=H
            try dsimp only at H
            have A33:=zB A330
            clear A330
            have H':=zB H
            clear H
            have hnb34:=NB294_288.out
            have hnc34:=NB288_294.out
            have hcz35:=zD BK294.out
            have hfz35:=zC BK294.out
            try go_wp2_with (first|((with_reducible refine gate_builtin (b:=.append) (xs:=#[.tmp 45,.tmp 51]) rfl ?_);at_builtin;refine Kd.R_append k65 (w0:=w) w.heap.size rfl (.tmp 45) (.tmp 51) 53 65 (.agg #[(.int .i64 0),(.int .i64 0),(.int .i64 0),(.int .i64 0)]) 32 rfl Try.underlying53 info65 rfl (by decide) (by omega) u6 x6_2 (⟨((rd_T28 l0_2 x7_2).f4),(⟨((rd_T28 l0_2 x7_2).f0.f0),((rd_T28 l0_2 x7_2).f0.f1)⟩:S26),1⟩:S65) [.int .i64 ((rd_T28 l0_2 x7_2).f4),.int .i64 ((rd_T28 l0_2 x7_2).f0.f0),.int .i64 ((rd_T28 l0_2 x7_2).f0.f1),.int .i64 1] (fun _=>True) (fun _=>False) rfl rfl ?aP (fun _ hk=>hk.elim) ?aF ?aO ?aB ?aS ?aL ?_;(case aP=>exact k65_mkM _ _ _ (⟨((rd_T28 l0_2 x7_2).f4),(⟨((rd_T28 l0_2 x7_2).f0.f0),((rd_T28 l0_2 x7_2).f0.f1)⟩:S26),1⟩:S65));(case aB=>exact(hb_ HB));(case aF=>exact(fun _ _=>trivial));(case aO=>exact(HO_6.out));(case aS=>exact(zN (hb_ HB)));(case aL=>have:=LMc32.out;omega);intro v296 w36 ho hb hg hat;rw[←Ny295.out] at ho;replace BK288:=zB (blk_grown (g:=gb288) (o:=.cells #[.int .i64 a0_0,.int .i64 a0_1,.slice (some ad293) l0_2.length c0_2] 24 (0,0)) BK288.out hg (Kd.R_ne HO_6.out BK288.out (by decide)));replace BK294:=zB (blk_grown (g:=gb294) (o:=.cells #[.int .i64 ((rd_T28 l0_2 x7_2).f0.f0),.int .i64 ((rd_T28 l0_2 x7_2).f0.f1),.int .i64 ((rd_T28 l0_2 x7_2).f1),.int .i64 ((rd_T28 l0_2 x7_2).f2),.int .i64 ((rd_T28 l0_2 x7_2).f3),.int .i64 ((rd_T28 l0_2 x7_2).f4)] 28 (0,0)) BK294.out hg (Kd.R_ne HO_6.out BK294.out (by decide)));replace HB:=zB (hb);have HO297:=zB (ho);clear HO_6;clear ho hb hg hat;have hcz37:=zD BK294.out;have hfz37:=zC BK294.out))
            have n0_:Aside0 (Kd.R k65 65 (w36.setCell ⟨gb294,2,none⟩ (.int .i64 1)) w.heap.size (fun _=>True) v296 y295):=⟨by(with_reducible repeat(first|apply Kd.R_alloc|apply Kd.R_drewN|apply Kd.R_drew));exact Kd.R_mono (Kd.R_far (p:=⟨gb294,2,none⟩) (Kd.R_types HO297.out BK294.out (by decide)) (fun _ hk=>hk.2) (.int .i64 1)) (fun _ hk=>trivial)⟩
            have n1_:Aside0 ((w36.setCell ⟨gb294,2,none⟩ (.int .i64 1)).heap[gb288]?=some (.cells #[.int .i64 a0_0,.int .i64 a0_1,.slice (some ad293) l0_2.length c0_2] 24 (0,0))):=⟨bk_ BK288⟩
            have n2_:Aside0 ((w36.setCell ⟨gb294,2,none⟩ (.int .i64 1)).heap[gb294]?=some (.cells #[.int .i64 ((rd_T28 l0_2 x7_2).f0.f0),.int .i64 ((rd_T28 l0_2 x7_2).f0.f1),.int .i64 1,.int .i64 ((rd_T28 l0_2 x7_2).f2),.int .i64 ((rd_T28 l0_2 x7_2).f3),.int .i64 ((rd_T28 l0_2 x7_2).f4)] 28 (0,0))):=⟨by refine zZ (cs:=#[.int .i64 ((rd_T28 l0_2 x7_2).f0.f0),.int .i64 ((rd_T28 l0_2 x7_2).f0.f1),.int .i64 ((rd_T28 l0_2 x7_2).f1),.int .i64 ((rd_T28 l0_2 x7_2).f2),.int .i64 ((rd_T28 l0_2 x7_2).f3),.int .i64 ((rd_T28 l0_2 x7_2).f4)]) ?_ 2 _ rfl;exact BK294.out⟩
            have n3_:Aside0 (Below w.heap.size w (w36.setCell ⟨gb294,2,none⟩ (.int .i64 1))):=⟨hb_ HB⟩
            (try clear HO297)
            (try clear BK288)
            (try clear BK294)
            (try clear HB)
            generalize(w36.setCell ⟨gb294,2,none⟩ (.int .i64 1))=w38 at n0_ n1_ n2_ n3_⊢
            have HO297:=n0_
            have BK288:=n1_
            have BK294:=n2_
            have HB:=n3_
            clear n0_ n1_ n2_ n3_
            replace HO297:=zB (Kd.R_drew HO297.out)
            replace BK288:=zB (zX BK288.out)
            replace BK294:=zB (zX BK294.out)
            replace HB:=zB (zG HB.out)
            refine start_ (n:=8) (S:=fun w'=>c_ w' gb294 0 (.int .i64 ((rd_T28 l0_2 x7_2).f0.f0))∧c_ w' gb294 1 (.int .i64 ((rd_T28 l0_2 x7_2).f0.f1))∧c_ w' gb294 2 (.int .i64 1)∧c_ w' gb294 3 (.int .i64 ((rd_T28 l0_2 x7_2).f2))∧c_ w' gb294 4 (.int .i64 ((rd_T28 l0_2 x7_2).f3))∧c_ w' gb294 5 (.int .i64 ((rd_T28 l0_2 x7_2).f4))) (ds:=[7]) (bt_ 0 8) (by kernel_rfl) rfl rfl ⟨bc_ BK294 0,bc_ BK294 1,bc_ BK294 2,bc_ BK294 3,bc_ BK294 4,bc_ BK294 5⟩ (fun hHeld=>?_);refine with_tabW watchmanref09_Turns.tab13 watchmanref09_Turns.bits13 (fun HT_ HW_=>?_)
            generalize w38.drew=w39 at HO297 BK288 BK294 HB hHeld⊢
            have Q_:=Qs.mk (n:=8) [(0,0,54,1),(0,2,56,5),(2,1,55,7),(2,3,57,15)]
            iterate 4 (first|(refine pq_ Q_ ?_;replace Q_:=qt_ Q_)|(refine tq_ Q_ hHeld ?_;replace Q_:=qt_ Q_))
            clear Q_
            refine one_ (i:=4) (N:=some 58) (dn_ 5 8) rfl rfl (one_of HT_.out (by kernel_rfl)) (by decide) (fun K hK=>?_)
            refine gs_ Try.func71 #[.int .i64 ((rd_T28 l0_2 x7_2).f2)] rfl ?_
            with_reducible refine(watchmanref06_Wait.calls ((rd_T28 l0_2 x7_2).f2) t298 _ A33.out).mono ?_
            rintro e w' ⟨rfl,⟨nd,rfl⟩⟩
            refine⟨_,rfl,?_⟩
            refine hK.out _ _ ⟨bc_ BK294 0,bc_ BK294 1,bc_ BK294 2,bc_ BK294 3,bc_ BK294 4,bc_ BK294 5⟩ (fun hHeld=>?_)
            clear hK K
            refine norm_ (a':=?_) ?_ ?_
            rotate_left
            ·show Act.put _ (some 58) _=_
             simp only[Act.put,zE,zH,zI,i64_w,i32_w]
             rfl
            refine pure_ (i:=5) (N:=some 59) (v:=?_) (a':=?_) (dn_ 6 8) rfl rfl (any_of HT_.out (by kernel_rfl)) (fun _ _ _ h=>h) (Or.inl ⟨by rfl,?_⟩) ?_ ?_
            rotate_left
            ·intro w'
             go_simp
             with_reducible rfl
            rotate_left;(simp only[Act.put,zE,zH,zI,i64_w,i32_w];rfl)
            refine pure_ (i:=6) (N:=some 60) (v:=?_) (a':=?_) (dn_ 7 8) rfl rfl (any_of HT_.out (by kernel_rfl)) (fun _ _ _ h=>h) (Or.inl ⟨by rfl,?_⟩) ?_ ?_
            rotate_left
            ·intro w'
             go_simp
             with_reducible rfl
            rotate_left;(simp only[Act.put,zE,zH,zI,i64_w,i32_w];rfl)
            refine last_ (i:=7) (N:=none) (bt_ 255 8) rfl rfl (one_of HT_.out (by kernel_rfl)) (by decide) (fun K hK=>?_)
            have hs40:c_ w39 gb294 5 (.int .i64 ((rd_T28 l0_2 x7_2).f4)):=bc_ BK294 5
            have hfs40:=zC BK294.out 5
            have hns40_0:=NB288_294.out
            have hms40_0:=NB294_288.out
            refine skip_ (w1:=?_) (by rfl) rfl ?_ ?_
            rotate_left
            ·go_simp
             rfl
            refine hK.out _ _ ?_
            clear hK K
            refine done_ (done_of HT_.out (by kernel_rfl)) ?_
            try go_wp2
            go_meet
            case rel=>exact⟨_,(y295),(1),(wrap64 (((rd_T28 l0_2 x7_2).f4)+t298)),H',⟨by have:=HJ2.out;have:=HK2.out;have:=HJ19.out;first|omega|exact za _⟩,⟨by(with_reducible repeat(first|apply Kd.R_alloc|apply Kd.R_drewN|apply Kd.R_drew));exact Kd.R_mono (Kd.R_far (p:=⟨gb294,5,none⟩) (Kd.R_types HO297.out BK294.out (by decide)) (fun _ hk=>hk.2) (.int .i64 (wrap64 (((rd_T28 l0_2 x7_2).f4)+t298)))) (fun _ hk=>trivial)⟩,⟨bk_ BK288⟩,⟨by(with_reducible repeat(first|refine zU ?_ _|refine zX ?_|refine zT ?_ _));refine zZ (cs:=#[.int .i64 ((rd_T28 l0_2 x7_2).f0.f0),.int .i64 ((rd_T28 l0_2 x7_2).f0.f1),.int .i64 1,.int .i64 ((rd_T28 l0_2 x7_2).f2),.int .i64 ((rd_T28 l0_2 x7_2).f3),.int .i64 ((rd_T28 l0_2 x7_2).f4)]) ?_ 5 _ rfl;(with_reducible repeat(first|refine zU ?_ _|refine zX ?_|refine zT ?_ _));exact BK294.out⟩,⟨hb_ HB⟩⟩
           ·replace c31:=zb c31
            subst c31
            rw[if_neg (show ¬(false=true) by decide)] at H;try dsimp only at H
            have H':=zB H
            clear H
            go_wp2
            go_meet
            case rel=>exact⟨_,(x6_2),(((rd_T28 l0_2 x7_2).f1)),(((rd_T28 l0_2 x7_2).f4)),H',⟨by have:=HJ2.out;have:=HK2.out;have:=HJ19.out;first|omega|exact za _⟩,⟨kr_ HO_6⟩,⟨bk_ BK288⟩,⟨bk_ BK294⟩,⟨hb_ HB⟩⟩
          case rest=>
           clear HC30
           try clear c1;try clear c2;try clear p2;try clear q2;try clear hx2;try clear c3;try clear c6;try clear p6;try clear c7;try clear c7b0;try clear c14;try clear c15;try clear c15b0;try clear c18;try clear c18b0;try clear c19;try clear c19b0;try clear c23;try clear c25;try clear c25b0;try clear c25b1;try clear c26;try clear c28;try clear p29;try clear q29;try clear hx29;try clear c31;try clear c32;try clear c33;try clear c34;try clear c38;try clear hcz10;try clear hcz12;try clear hcz16;try clear hcz17;try clear hcz21;try clear hcz24;try clear hcz27;try clear hcz29;try clear hcz35;try clear hcz37;try clear hcz8;try clear hfz10;try clear hfz12;try clear hfz16;try clear hfz17;try clear hfz21;try clear hfz24;try clear hfz27;try clear hfz29;try clear hfz35;try clear hfz37;try clear hfz8;try clear hx293_0;try clear hx293_1;try clear hx293_2;try clear hx293_3;try clear hx293_4;try clear hx293_5;try clear p293;try clear q293
           obtain⟨kq,x6_29,x295002_29,x295005_29,HA,HJ29,HO_6,BK288,BK294,HB⟩:=hcut
           cases kq with
           |zero=>exact absurd HA.out (by simp[watchmanref09_Turns.j3])
           |succ kj29=>
            have H:=HA.out
            clear HA
            simp only[watchmanref09_Turns.j3] at H
            by_cases c41:x295002_29=1
            ·rw[if_pos c41] at H
             have c41b0:=beq_iff_eq.mpr c41
             have c41b1:=bne_eq_false_iff_eq.mpr c41
             clear c41
             by_cases c42:x295005_29≤a1
             ·rw[if_pos c42] at H
              have c42b0:=zO c42
              clear c42
              obtain⟨c43,H⟩:=gd_ H
              have LMc43:=zB c43
              clear c43
              obtain⟨y299,hy299⟩: ∃y_:List (S65),y_=(x6_29++[(⟨x295005_29,(⟨((rd_T28 l0_2 x7_2).f0.f0),((rd_T28 l0_2 x7_2).f0.f1)⟩:S26),2⟩:S65)]):=⟨_,rfl⟩
              replace H:(watchmanref09_Turns.l0 kj29 a1 y299 (wrap64 (x7_2+1)) a0_0 a0_1 l0_2)=some (r1,r2):=by first|(rw[hy299];with_reducible exact H)|(have H2_:=(Option.bind_some _ _).symm.trans H;rw[hy299];with_reducible exact H2_)|(have H2_:=(Option.bind_some _ _).symm.trans H;with_reducible exact H2_)|with_reducible exact H|(rw[hy299];exact H)|exact H
              have Ny299:=zB hy299
              clear hy299
              have H':=zB H
              clear H
              have hnb44:=NB294_288.out
              have hnc44:=NB288_294.out
              have hcz45:=zD BK294.out
              have hfz45:=zC BK294.out
              go_wp2_with (first|((with_reducible refine gate_builtin (b:=.append) (xs:=#[.tmp 70,.tmp 76]) rfl ?_);at_builtin;refine Kd.R_append k65 (w0:=w) w.heap.size rfl (.tmp 70) (.tmp 76) 53 65 (.agg #[(.int .i64 0),(.int .i64 0),(.int .i64 0),(.int .i64 0)]) 32 rfl Try.underlying53 info65 rfl (by decide) (by omega) u6 x6_29 (⟨x295005_29,(⟨((rd_T28 l0_2 x7_2).f0.f0),((rd_T28 l0_2 x7_2).f0.f1)⟩:S26),2⟩:S65) [.int .i64 x295005_29,.int .i64 ((rd_T28 l0_2 x7_2).f0.f0),.int .i64 ((rd_T28 l0_2 x7_2).f0.f1),.int .i64 2] (fun _=>True) (fun _=>False) rfl rfl ?aP (fun _ hk=>hk.elim) ?aF ?aO ?aB ?aS ?aL ?_;(case aP=>exact k65_mkM _ _ _ (⟨x295005_29,(⟨((rd_T28 l0_2 x7_2).f0.f0),((rd_T28 l0_2 x7_2).f0.f1)⟩:S26),2⟩:S65));(case aB=>exact(hb_ HB));(case aF=>exact(fun _ _=>trivial));(case aO=>exact(HO_6.out));(case aS=>exact(zN (hb_ HB)));(case aL=>have:=LMc43.out;omega);intro v300 w46 ho hb hg hat;rw[←Ny299.out] at ho;replace BK288:=zB (blk_grown (g:=gb288) (o:=.cells #[.int .i64 a0_0,.int .i64 a0_1,.slice (some ad293) l0_2.length c0_2] 24 (0,0)) BK288.out hg (Kd.R_ne HO_6.out BK288.out (by decide)));replace BK294:=zB (blk_grown (g:=gb294) (o:=.cells #[.int .i64 ((rd_T28 l0_2 x7_2).f0.f0),.int .i64 ((rd_T28 l0_2 x7_2).f0.f1),.int .i64 x295002_29,.int .i64 ((rd_T28 l0_2 x7_2).f2),.int .i64 ((rd_T28 l0_2 x7_2).f3),.int .i64 x295005_29] 28 (0,0)) BK294.out hg (Kd.R_ne HO_6.out BK294.out (by decide)));replace HB:=zB (hb);have HO301:=zB (ho);clear HO_6;clear ho hb hg hat))
              go_roundg kj29
              case measure=>have:=HJ2.out;have:=HK2.out;have:=HJ19.out;have:=HJ29.out;omega
              case rel=>exact⟨(y299),(wrap64 (x7_2+1)),rs_,H',⟨by have:=HJ2.out;have:=HK2.out;have:=HJ19.out;have:=HJ29.out;omega⟩,⟨kr_ HO301⟩,⟨bk_ BK288⟩,⟨hb_ HB⟩⟩
             ·rw[if_neg c42] at H
              have c42b0:=zY c42
              clear c42
              have H':=zB H
              clear H
              have hnb47:=NB294_288.out
              have hnc47:=NB288_294.out
              have hcz48:=zD BK294.out
              have hfz48:=zC BK294.out
              go_wp2
              go_roundg kj29
              case measure=>have:=HJ2.out;have:=HK2.out;have:=HJ19.out;have:=HJ29.out;omega
              case rel=>exact⟨(x6_29),(wrap64 (x7_2+1)),rs_,H',⟨by have:=HJ2.out;have:=HK2.out;have:=HJ19.out;have:=HJ29.out;omega⟩,⟨kr_ HO_6⟩,⟨bk_ BK288⟩,⟨hb_ HB⟩⟩
            ·rw[if_neg c41] at H
             have c41b0:=beq_eq_false_iff_ne.mpr c41
             have c41b1:=bne_iff_ne.mpr c41
             have H':=zB H
             clear H
             have hnb49:=NB294_288.out
             have hnc49:=NB288_294.out
             have hcz50:=zD BK294.out
             have hfz50:=zC BK294.out
             go_wp2
             go_roundg kj29
             case measure=>have:=HJ2.out;have:=HK2.out;have:=HJ19.out;have:=HJ29.out;omega
             case rel=>exact⟨(x6_29),(wrap64 (x7_2+1)),rs_,H',⟨by have:=HJ2.out;have:=HK2.out;have:=HJ19.out;have:=HJ29.out;omega⟩,⟨kr_ HO_6⟩,⟨bk_ BK288⟩,⟨hb_ HB⟩⟩
       ·rw[if_neg c18] at H
        have c18b0:=zY c18
        clear c18
        replace H:=zL H
        obtain⟨t290,A510,H⟩:=H
        try dsimp only at H
        have A51:=zB A510
        clear A510
        simp only[zc,Prod.mk.injEq] at H
        obtain⟨rfl,rfl⟩:=H
        have hcz52:=zD BK288.out
        have hfz52:=zC BK288.out
        obtain⟨Ao53,co53,eo53⟩:=Kd.R_slice HO_6.out
        subst eo53
        go_wp2_with (first|((with_reducible refine gate_callee (f:=48) rfl ?_);refine gl_ (some 79) Try.func48 #[.slice Ao53 x6_2.length co53] rfl ?_;(with_reducible refine(watchmanref09_Order.calls k2 _ _ x6_2 t290 _ ?side1 ?side2 A51.out).mono ?_);(case side1=>repeat(first|exact(zd HO_6.out).2.2|(with_reducible refine Kd.C_alloc ?_ _)|(with_reducible refine Kd.C_drewN ?_ _)|(with_reducible refine Kd.C_drew ?_)));(case side2=>exact(zd HO_6.out).2.1);rintro e w54 ⟨v291,rfl,ho0,hb⟩;refine⟨_,rfl,?_⟩;have HO292:=zB (Kd.R_lower (Kd.R_new' ho0 (Kd.R_lt (HO_6.out))) (zN (hb_ HB)));replace HO_6:=zB (Kd.R_elder' (HO_6.out) (Kd.R_base ho0) hb);replace BK288:=bl_ BK288 hb;replace HB:=zB (zQ (hb_ HB) hb);(try clear hb);(try clear hb2);(try clear hk);(try clear hi);(try clear ho0)))
        go_ret2
        exact⟨_,ew_,by(with_reducible repeat(first|apply Kd.R_alloc|apply Kd.R_drewN|apply Kd.R_drew));exact Kd.R_mono HO292.out (fun _ hk=>trivial),hb_ HB⟩
end Go.Proofs.Ytcfpbmdndapeaaa.F
