-- Written by a program of this session (xprint.py), out of the translation and of contracts proved by hand.
import Derived.Test.YtcfpbmdndapeaaaF0
import Derived.Test.YtcfpbmdndapeaaaF4
namespace Go.Proofs.Ytcfpbmdndapeaaa.F
open Go.RowKit Go.Proofs.YtcfpbmdndapeaaaV.PrintWords Go.Proofs.YtcfpbmdndapeaaaV.PrintLast Go.Proofs.YtcfpbmdndapeaaaV.PrintMore
attribute [local go_sem] max2_int min2_int max_two min_two max_three min_three max_four min_four
set_option linter.unusedVariables false
set_option linter.unusedSimpArgs false
mutual
def board_alarms_rise.l0:Nat→List (S28)→Int→List (S28)→Int→Int→Option (Bool)
 |0,_,_,_,_,_=>none
 |k+1,x0,x1,x7,x8,x9=>if x9<x8 then(if 0≤x9 then(if x9<(x7.length:Int) then((alarm_Is.f ((rd_T28 x7 x9).f0.f0) ((rd_T28 x7 x9).f0.f1) ((rd_T28 x7 x9).f1) ((rd_T28 x7 x9).f2) ((rd_T28 x7 x9).f3) ((rd_T28 x7 x9).f4)).bind fun t126=>(if t126=true then(if((rd_T28 x7 x9).f3)>x1 then(board_alarms_rise.j1 k x0 x1 x7 x8 x9 true) else(if x9>0 then(if 0≤(wrap64 (x9-1)) then(if(wrap64 (x9-1))<(x0.length:Int) then((spot_Less.f ((rd_T28 x0 (wrap64 (x9-1))).f0.f0) ((rd_T28 x0 (wrap64 (x9-1))).f0.f1) ((rd_T28 x7 x9).f0.f0) ((rd_T28 x7 x9).f0.f1)).bind fun t128=>(board_alarms_rise.j1 k x0 x1 x7 x8 x9 (!t128))) else(none)) else(none)) else(board_alarms_rise.j1 k x0 x1 x7 x8 x9 false))) else(board_alarms_rise.j1 k x0 x1 x7 x8 x9 true))) else(none)) else(none)) else(some true)
def board_alarms_rise.j1:Nat→List (S28)→Int→List (S28)→Int→Int→Bool→Option (Bool)
 |0,_,_,_,_,_,_=>none
 |k+1,x0,x1,x7,x8,x9,x38=>if x38=true then(some false) else(board_alarms_rise.l0 k x0 x1 x7 x8 (wrap64 (x9+1)))
end
def board_alarms_rise.f (k:Nat) (l0:List (S28)) (a1:Int):Option (Bool):=board_alarms_rise.l0 k l0 a1 l0 (l0.length:Int) 0
theorem board_alarms_rise.mono_l: ∀k,(∀y0 y1 y2 y3 y4,LeO (board_alarms_rise.l0 k y0 y1 y2 y3 y4) (board_alarms_rise.l0 (k+1) y0 y1 y2 y3 y4))∧(∀y0 y1 y2 y3 y4 y5,LeO (board_alarms_rise.j1 k y0 y1 y2 y3 y4 y5) (board_alarms_rise.j1 (k+1) y0 y1 y2 y3 y4 y5))
 |0=>⟨fun _ _ _ _ _ r h=>by simp[board_alarms_rise.l0] at h,fun _ _ _ _ _ _ r h=>by simp[board_alarms_rise.j1] at h⟩
 |k+1=>by
  obtain⟨ih0,ih1⟩:=board_alarms_rise.mono_l k
  refine⟨?_,?_⟩
  all_goals (intros;first|unfold board_alarms_rise.l0|unfold board_alarms_rise.j1)
  all_goals (repeat' first
   |(with_reducible exact ih0 _ _ _ _ _)
   |(with_reducible exact ih1 _ _ _ _ _ _)
   |(with_reducible exact LeO.refl _)
   |(with_reducible exact zf _)
   |(with_reducible refine zg ?_ ?_)
   |(with_reducible refine ze ?_ (fun _=>?_)))
theorem board_alarms_rise.mono: ∀a0 a1 k,LeO (board_alarms_rise.f k a0 a1) (board_alarms_rise.f (k+1) a0 a1):=by
 intro a0 a1 k
 obtain⟨ih0,ih1⟩:=board_alarms_rise.mono_l k
 unfold board_alarms_rise.f
 repeat' first
   |(with_reducible exact ih0 _ _ _ _ _)
   |(with_reducible exact ih1 _ _ _ _ _ _)
   |(with_reducible exact LeO.refl _)
   |(with_reducible exact zf _)
   |(with_reducible refine zg ?_ ?_)
   |(with_reducible refine ze ?_ (fun _=>?_))
def board_alarms_rise.T4:Bool×List (List Nat×List Nat):=(true,[([],[]),([0],[0]),([1],[1]),([2,1],[2]),([3],[3]),([4,3],[3,4]),([3],[3]),([5,6,3],[3,5,6]),([3,7],[3,7]),([8,3],[8]),([9],[9]),([10,9],[9,10]),([11,9,9],[9,11]),([12],[12]),([12],[12]),([14,12],[12,14]),([13,15,12],[12,13,15]),([16,12],[12,16]),([17,12],[12,17]),([12],[12]),([19,12],[12,19]),([18,20,12,12],[12,18,20]),([21,12],[12,21]),([12,22,9],[9,12,22]),([9,23],[9,23])])
def board_alarms_rise.B4:List Nat:=[0,1,3,7,15,31,15,127,255,511,1023,2047,4095,8191,8191,24575,65535,131071,262143,8191,532479,2097151,4194303,8388607,16777215]
theorem board_alarms_rise.tab4:rtab .any (opsOf Try.f65 4)=board_alarms_rise.T4:=by kernel_rfl
theorem board_alarms_rise.bits4:waitsOk board_alarms_rise.T4.2 board_alarms_rise.B4=true:=by kernel_rfl
set_option maxHeartbeats 8000000 in
set_option maxRecDepth 100000 in
theorem board_alarms_rise.calls (k:Nat) (A0:Option Addr) (c0:Nat) (l0:List (S28)) (a1:Int) (r:Bool) (w:World) (hr0:Kd.C k28 w A0 l0.length l0) (hc0:l0.length≤c0) (h:board_alarms_rise.f k l0 a1=some r):
  Calls Try.prog 65 #[.slice A0 l0.length c0,.int .i64 a1] w fun e w'=>e=.returned (.bool r)∧Below w.heap.size w w':=by
 have hu28:=Try.underlying28
 have hu26:=Try.underlying26
 have HR0:=zB hr0
 have HC0:=zB hc0
 clear hr0 hc0
 have HB:=zB (Below.refl w.heap.size w)
 have H:(board_alarms_rise.l0 k l0 a1 l0 (l0.length:Int) 0)=some r:=h
 clear h
 have H':=zB H
 clear H
 go_enter Try.func65,Try.ntmps65
 go_wp2
 go_loopg [9] k (fun kq v9 w'=> ∃(x9_1:Int),v9=.int .i64 x9_1∧Aside0 (board_alarms_rise.l0 kq l0 a1 l0 (l0.length:Int) x9_1=some r)∧Aside0 (kq≤k)∧Aside0 (Below w.heap.size w w'))
 case atStart=>exact⟨(0),rs_,H',⟨za _⟩,⟨hb_ HB⟩⟩
 case round=>
  clear H'
  try clear p2
  obtain⟨x9_1,rfl,HA,HK1,HB⟩:=hrel
  cases gk with
  |zero=>exact absurd HA.out (by simp[board_alarms_rise.l0])
  |succ k1=>
   have H:=HA.out
   clear HA
   simp only[board_alarms_rise.l0] at H
   by_cases c3:x9_1<(l0.length:Int)
   ·rw[if_pos c3] at H
    have c3b0:=zO c3
    clear c3
    obtain⟨c4,H⟩:=gd_ H
    have c4b0:=zO c4
    clear c4
    obtain⟨c5,H⟩:=gd_ H
    have c5b0:=zO c5
    clear c5
    have HC6:=zB H
    clear H
    have p124:0≤(x9_1:Int):=zJ as_
    have q124:x9_1<(l0.length:Int):=zJ as_
    obtain⟨ad124,e124,hx124_0,hx124_1,hx124_2,hx124_3,hx124_4,hx124_5⟩:=at_T28 HR0.out x9_1 p124 q124
    cases e124
    replace hx124_0:=cb_ HB hx124_0
    replace hx124_1:=cb_ HB hx124_1
    replace hx124_2:=cb_ HB hx124_2
    replace hx124_3:=cb_ HB hx124_3
    replace hx124_4:=cb_ HB hx124_4
    replace hx124_5:=cb_ HB hx124_5
    replace p124:=eq_true p124
    replace q124:=eq_true q124
    go_upto_region 4 with(first|((with_reducible refine gate_dst (N:=6) rfl ?_);refine be_ (N:=6) (cs:=#[.int .i64 0,.int .i64 0,.int .i64 0,.int .i64 0,.int .i64 0,.int .i64 0]) (t:=28) ?_;intro gb125 hg w7 hbox hb;have BK125:=zB hbox;have GW125:=gw_ hg HB;have GE125:=GW125;replace HB:=zB (zQ HB.out hb);clear hb hbox hg;have hcz8:=zD BK125.out;have hfz8:=zC BK125.out))
    (try simp only[Act.put,zE,zH,zI])
    go_cut [38] (fun v38 wc=> ∃(kq:Nat) (x38_5:Bool),v38=.bool x38_5∧Aside0 (board_alarms_rise.j1 kq l0 a1 l0 (l0.length:Int) x9_1 x38_5=some r)∧Aside0 (kq≤k1)∧Aside0 (wc.heap[gb125]?=some (.cells #[.int .i64 ((rd_T28 l0 x9_1).f0.f0),.int .i64 ((rd_T28 l0 x9_1).f0.f1),.int .i64 ((rd_T28 l0 x9_1).f1),.int .i64 ((rd_T28 l0 x9_1).f2),.int .i64 ((rd_T28 l0 x9_1).f3),.int .i64 ((rd_T28 l0 x9_1).f4)] 28 (0,0)))∧Aside0 (Below w.heap.size w wc))
    case first=>
     have H:=HC6.out
     clear HC6
     replace H:=zL H
     obtain⟨t126,A90,H⟩:=H
     try dsimp only at H
     have A9:=zB A90
     clear A90
     by_cases c10:t126=true
     ·subst c10
      rw[if_pos rfl] at H;try dsimp only at H
      by_cases c11:((rd_T28 l0 x9_1).f3)>a1
      ·rw[if_pos c11] at H
       have c11b0:=zO c11
       clear c11
       (first|rw[c11b0]|(simp only[i64_w,i32_w];rw[c11b0])|skip)
       have H':=zB H
       clear H
       try go_wp2
       have n0_:Aside0 (((((((w7.setCell ⟨gb125,0,none⟩ (.int .i64 ((rd_T28 l0 x9_1).f0.f0))).setCell ⟨gb125,1,none⟩ (.int .i64 ((rd_T28 l0 x9_1).f0.f1))).setCell ⟨gb125,2,none⟩ (.int .i64 ((rd_T28 l0 x9_1).f1))).setCell ⟨gb125,3,none⟩ (.int .i64 ((rd_T28 l0 x9_1).f2))).setCell ⟨gb125,4,none⟩ (.int .i64 ((rd_T28 l0 x9_1).f3))).setCell ⟨gb125,5,none⟩ (.int .i64 ((rd_T28 l0 x9_1).f4))).heap[gb125]?=some (.cells #[.int .i64 ((rd_T28 l0 x9_1).f0.f0),.int .i64 ((rd_T28 l0 x9_1).f0.f1),.int .i64 ((rd_T28 l0 x9_1).f1),.int .i64 ((rd_T28 l0 x9_1).f2),.int .i64 ((rd_T28 l0 x9_1).f3),.int .i64 ((rd_T28 l0 x9_1).f4)] 28 (0,0))):=⟨by refine zZ (cs:=#[.int .i64 ((rd_T28 l0 x9_1).f0.f0),.int .i64 ((rd_T28 l0 x9_1).f0.f1),.int .i64 ((rd_T28 l0 x9_1).f1),.int .i64 ((rd_T28 l0 x9_1).f2),.int .i64 ((rd_T28 l0 x9_1).f3),.int .i64 0]) ?_ 5 _ rfl;refine zZ (cs:=#[.int .i64 ((rd_T28 l0 x9_1).f0.f0),.int .i64 ((rd_T28 l0 x9_1).f0.f1),.int .i64 ((rd_T28 l0 x9_1).f1),.int .i64 ((rd_T28 l0 x9_1).f2),.int .i64 0,.int .i64 0]) ?_ 4 _ rfl;refine zZ (cs:=#[.int .i64 ((rd_T28 l0 x9_1).f0.f0),.int .i64 ((rd_T28 l0 x9_1).f0.f1),.int .i64 ((rd_T28 l0 x9_1).f1),.int .i64 0,.int .i64 0,.int .i64 0]) ?_ 3 _ rfl;refine zZ (cs:=#[.int .i64 ((rd_T28 l0 x9_1).f0.f0),.int .i64 ((rd_T28 l0 x9_1).f0.f1),.int .i64 0,.int .i64 0,.int .i64 0,.int .i64 0]) ?_ 2 _ rfl;refine zZ (cs:=#[.int .i64 ((rd_T28 l0 x9_1).f0.f0),.int .i64 0,.int .i64 0,.int .i64 0,.int .i64 0,.int .i64 0]) ?_ 1 _ rfl;refine zZ (cs:=#[.int .i64 0,.int .i64 0,.int .i64 0,.int .i64 0,.int .i64 0,.int .i64 0]) ?_ 0 _ rfl;exact BK125.out⟩
       have n1_:Aside0 (Below w.heap.size w ((((((w7.setCell ⟨gb125,0,none⟩ (.int .i64 ((rd_T28 l0 x9_1).f0.f0))).setCell ⟨gb125,1,none⟩ (.int .i64 ((rd_T28 l0 x9_1).f0.f1))).setCell ⟨gb125,2,none⟩ (.int .i64 ((rd_T28 l0 x9_1).f1))).setCell ⟨gb125,3,none⟩ (.int .i64 ((rd_T28 l0 x9_1).f2))).setCell ⟨gb125,4,none⟩ (.int .i64 ((rd_T28 l0 x9_1).f3))).setCell ⟨gb125,5,none⟩ (.int .i64 ((rd_T28 l0 x9_1).f4)))):=⟨hb_ HB⟩
       (try clear BK125)
       (try clear HB)
       generalize((((((w7.setCell ⟨gb125,0,none⟩ (.int .i64 ((rd_T28 l0 x9_1).f0.f0))).setCell ⟨gb125,1,none⟩ (.int .i64 ((rd_T28 l0 x9_1).f0.f1))).setCell ⟨gb125,2,none⟩ (.int .i64 ((rd_T28 l0 x9_1).f1))).setCell ⟨gb125,3,none⟩ (.int .i64 ((rd_T28 l0 x9_1).f2))).setCell ⟨gb125,4,none⟩ (.int .i64 ((rd_T28 l0 x9_1).f3))).setCell ⟨gb125,5,none⟩ (.int .i64 ((rd_T28 l0 x9_1).f4)))=w12 at n0_ n1_⊢
       have BK125:=n0_
       have HB:=n1_
       clear n0_ n1_
       replace BK125:=zB (zX BK125.out)
       replace HB:=zB (zG HB.out)
       refine start_ (n:=25) (S:=fun w'=>c_ w' gb125 0 (.int .i64 ((rd_T28 l0 x9_1).f0.f0))∧c_ w' gb125 1 (.int .i64 ((rd_T28 l0 x9_1).f0.f1))∧c_ w' gb125 2 (.int .i64 ((rd_T28 l0 x9_1).f1))∧c_ w' gb125 3 (.int .i64 ((rd_T28 l0 x9_1).f2))∧c_ w' gb125 4 (.int .i64 ((rd_T28 l0 x9_1).f3))∧c_ w' gb125 5 (.int .i64 ((rd_T28 l0 x9_1).f4))) (ds:=[]) (bt_ 0 25) (by kernel_rfl) rfl rfl ⟨bc_ BK125 0,bc_ BK125 1,bc_ BK125 2,bc_ BK125 3,bc_ BK125 4,bc_ BK125 5⟩ (fun hHeld=>?_);refine with_tabW board_alarms_rise.tab4 board_alarms_rise.bits4 (fun HT_ HW_=>?_)
       generalize w12.drew=w13 at BK125 HB hHeld⊢
       refine take_ (i:=0) (N:=some 14) (v:=?_) (a':=?_) (dn_ 1 25) rfl rfl (take_ofW HT_.out HW_.out (by kernel_rfl)) (fun _ _ _ h=>h) (Or.inl ⟨by rfl,?_⟩) hHeld ?_ ?_
       rotate_left
       ·rintro w' ⟨s0,s1,s2,s3,s4,s5⟩
        go_simp
        with_reducible rfl
       rotate_left;(simp only[Act.put,zE,zH,zI,i64_w,i32_w];rfl)
       refine one_ (i:=1) (N:=some 15) (dn_ 2 25) rfl rfl (one_of HT_.out (by kernel_rfl)) (by decide) (fun K hK=>?_)
       refine gs_ Try.func50 #[.agg #[.int .i64 ((rd_T28 l0 x9_1).f0.f0),.int .i64 ((rd_T28 l0 x9_1).f0.f1),.int .i64 ((rd_T28 l0 x9_1).f1),.int .i64 ((rd_T28 l0 x9_1).f2),.int .i64 ((rd_T28 l0 x9_1).f3),.int .i64 ((rd_T28 l0 x9_1).f4)]] rfl ?_
       with_reducible refine(alarm_Is.calls ((rd_T28 l0 x9_1).f0.f0) ((rd_T28 l0 x9_1).f0.f1) ((rd_T28 l0 x9_1).f1) ((rd_T28 l0 x9_1).f2) ((rd_T28 l0 x9_1).f3) ((rd_T28 l0 x9_1).f4) true _ A9.out).mono ?_
       rintro e w14 ⟨rfl,hb⟩
       refine⟨_,rfl,?_⟩
       replace BK125:=bl_ BK125 hb
       replace HB:=zB (zQ (hb_ HB) hb)
       (try clear hb)
       (try clear hb2)
       (try clear hk)
       (try clear hi)
       refine hK.out _ _ ⟨bc_ BK125 0,bc_ BK125 1,bc_ BK125 2,bc_ BK125 3,bc_ BK125 4,bc_ BK125 5⟩ (fun hHeld=>?_)
       clear hK K
       refine norm_ (a':=?_) ?_ ?_
       rotate_left
       ·show Act.put _ (some 15) _=_
        simp only[Act.put,zE,zH,zI,i64_w,i32_w]
        rfl
       have Q_:=Qs.mk (n:=25) [(0,2,16,7),(0,3,17,15),(0,4,18,31),(0,6,20,95),(2,5,19,127),(0,7,21,255),(0,8,22,511),(0,9,23,1023),(1,10,24,2047),(1,11,25,4095),(1,12,26,8191),(1,13,27,16383),(1,14,28,32767),(1,15,29,65535),(1,16,30,131071),(1,17,31,262143),(1,18,32,524287),(1,19,33,1048575),(1,20,34,2097151),(1,21,35,4194303),(1,22,36,8388607),(1,23,37,16777215),(0,24,38,33554431)]
       iterate 23 (first|(refine pq_ Q_ ?_;replace Q_:=qt_ Q_)|(refine uq_ Q_ ?_;replace Q_:=qt_ Q_)|(refine tq_ Q_ hHeld ?_;replace Q_:=qt_ Q_))
       clear Q_
       refine done_ (done_of HT_.out (by kernel_rfl)) ?_
       try go_wp2
       go_meet
       case rel=>exact⟨_,(true),rs_,H',⟨za_ HK1⟩,⟨bk_ BK125⟩,⟨hb_ HB⟩⟩
      ·rw[if_neg c11] at H
       have c11b0:=zY c11
       clear c11
       (first|rw[c11b0]|(simp only[i64_w,i32_w];rw[c11b0])|skip)
       by_cases c15:x9_1>0
       ·rw[if_pos c15] at H
        have c15b0:=zO c15
        clear c15
        obtain⟨ji16,hji16⟩: ∃j_:Int,(wrap64 (x9_1-1))=j_:=⟨_,rfl⟩
        replace H:(if 0≤(ji16) then(if(ji16)<(l0.length:Int) then((spot_Less.f ((rd_T28 l0 (ji16)).f0.f0) ((rd_T28 l0 (ji16)).f0.f1) ((rd_T28 l0 x9_1).f0.f0) ((rd_T28 l0 x9_1).f0.f1)).bind fun t128=>(board_alarms_rise.j1 k1 l0 a1 l0 (l0.length:Int) x9_1 (!t128))) else(none)) else(none))=some r:=by first|(rw[hji16] at H;exact H)|(simp only[hji16] at H⊢;exact H)
        (try rw[hji16] at A9)
        have hji16w:(IntKind.i64.wrap (x9_1-1))=ji16:=(i64_w _).trans hji16
        obtain⟨c17,H⟩:=gd_ H
        have c17b0:=zO c17
        clear c17
        obtain⟨c18,H⟩:=gd_ H
        have c18b0:=zO c18
        clear c18
        replace H:=zL H
        obtain⟨t128,A190,H⟩:=H
        try dsimp only at H
        have A19:=zB A190
        clear A190
        have H':=zB H
        clear H
        try go_wp2
        have n0_:Aside0 (((((((w7.setCell ⟨gb125,0,none⟩ (.int .i64 ((rd_T28 l0 x9_1).f0.f0))).setCell ⟨gb125,1,none⟩ (.int .i64 ((rd_T28 l0 x9_1).f0.f1))).setCell ⟨gb125,2,none⟩ (.int .i64 ((rd_T28 l0 x9_1).f1))).setCell ⟨gb125,3,none⟩ (.int .i64 ((rd_T28 l0 x9_1).f2))).setCell ⟨gb125,4,none⟩ (.int .i64 ((rd_T28 l0 x9_1).f3))).setCell ⟨gb125,5,none⟩ (.int .i64 ((rd_T28 l0 x9_1).f4))).heap[gb125]?=some (.cells #[.int .i64 ((rd_T28 l0 x9_1).f0.f0),.int .i64 ((rd_T28 l0 x9_1).f0.f1),.int .i64 ((rd_T28 l0 x9_1).f1),.int .i64 ((rd_T28 l0 x9_1).f2),.int .i64 ((rd_T28 l0 x9_1).f3),.int .i64 ((rd_T28 l0 x9_1).f4)] 28 (0,0))):=⟨by refine zZ (cs:=#[.int .i64 ((rd_T28 l0 x9_1).f0.f0),.int .i64 ((rd_T28 l0 x9_1).f0.f1),.int .i64 ((rd_T28 l0 x9_1).f1),.int .i64 ((rd_T28 l0 x9_1).f2),.int .i64 ((rd_T28 l0 x9_1).f3),.int .i64 0]) ?_ 5 _ rfl;refine zZ (cs:=#[.int .i64 ((rd_T28 l0 x9_1).f0.f0),.int .i64 ((rd_T28 l0 x9_1).f0.f1),.int .i64 ((rd_T28 l0 x9_1).f1),.int .i64 ((rd_T28 l0 x9_1).f2),.int .i64 0,.int .i64 0]) ?_ 4 _ rfl;refine zZ (cs:=#[.int .i64 ((rd_T28 l0 x9_1).f0.f0),.int .i64 ((rd_T28 l0 x9_1).f0.f1),.int .i64 ((rd_T28 l0 x9_1).f1),.int .i64 0,.int .i64 0,.int .i64 0]) ?_ 3 _ rfl;refine zZ (cs:=#[.int .i64 ((rd_T28 l0 x9_1).f0.f0),.int .i64 ((rd_T28 l0 x9_1).f0.f1),.int .i64 0,.int .i64 0,.int .i64 0,.int .i64 0]) ?_ 2 _ rfl;refine zZ (cs:=#[.int .i64 ((rd_T28 l0 x9_1).f0.f0),.int .i64 0,.int .i64 0,.int .i64 0,.int .i64 0,.int .i64 0]) ?_ 1 _ rfl;refine zZ (cs:=#[.int .i64 0,.int .i64 0,.int .i64 0,.int .i64 0,.int .i64 0,.int .i64 0]) ?_ 0 _ rfl;exact BK125.out⟩
        have n1_:Aside0 (Below w.heap.size w ((((((w7.setCell ⟨gb125,0,none⟩ (.int .i64 ((rd_T28 l0 x9_1).f0.f0))).setCell ⟨gb125,1,none⟩ (.int .i64 ((rd_T28 l0 x9_1).f0.f1))).setCell ⟨gb125,2,none⟩ (.int .i64 ((rd_T28 l0 x9_1).f1))).setCell ⟨gb125,3,none⟩ (.int .i64 ((rd_T28 l0 x9_1).f2))).setCell ⟨gb125,4,none⟩ (.int .i64 ((rd_T28 l0 x9_1).f3))).setCell ⟨gb125,5,none⟩ (.int .i64 ((rd_T28 l0 x9_1).f4)))):=⟨hb_ HB⟩
        (try clear BK125)
        (try clear HB)
        generalize((((((w7.setCell ⟨gb125,0,none⟩ (.int .i64 ((rd_T28 l0 x9_1).f0.f0))).setCell ⟨gb125,1,none⟩ (.int .i64 ((rd_T28 l0 x9_1).f0.f1))).setCell ⟨gb125,2,none⟩ (.int .i64 ((rd_T28 l0 x9_1).f1))).setCell ⟨gb125,3,none⟩ (.int .i64 ((rd_T28 l0 x9_1).f2))).setCell ⟨gb125,4,none⟩ (.int .i64 ((rd_T28 l0 x9_1).f3))).setCell ⟨gb125,5,none⟩ (.int .i64 ((rd_T28 l0 x9_1).f4)))=w20 at n0_ n1_⊢
        have BK125:=n0_
        have HB:=n1_
        clear n0_ n1_
        replace BK125:=zB (zX BK125.out)
        replace HB:=zB (zG HB.out)
        have p127:0≤((ji16):Int):=zJ as_
        have q127:(ji16)<(l0.length:Int):=zJ as_
        obtain⟨ad127,e127,hx127_0,hx127_1,hx127_2,hx127_3,hx127_4,hx127_5⟩:=at_T28 HR0.out (ji16) p127 q127
        have hw127_5:=hx127_5
        have hw127_4:=hx127_4
        have hw127_3:=hx127_3
        have hw127_2:=hx127_2
        have hw127_1:=hx127_1
        have hw127_0:=hx127_0
        obtain rfl:ad124=ad127:=(by injection e127)
        replace hx127_0:=cb_ HB hx127_0
        replace hx127_1:=cb_ HB hx127_1
        replace hx127_2:=cb_ HB hx127_2
        replace hx127_3:=cb_ HB hx127_3
        replace hx127_4:=cb_ HB hx127_4
        replace hx127_5:=cb_ HB hx127_5
        replace p127:=eq_true p127
        replace q127:=eq_true q127
        refine start_ (n:=25) (S:=fun w'=>c_ w' gb125 0 (.int .i64 ((rd_T28 l0 x9_1).f0.f0))∧c_ w' gb125 1 (.int .i64 ((rd_T28 l0 x9_1).f0.f1))∧c_ w' gb125 2 (.int .i64 ((rd_T28 l0 x9_1).f1))∧c_ w' gb125 3 (.int .i64 ((rd_T28 l0 x9_1).f2))∧c_ w' gb125 4 (.int .i64 ((rd_T28 l0 x9_1).f3))∧c_ w' gb125 5 (.int .i64 ((rd_T28 l0 x9_1).f4))∧w'.cell? (ad124.add (((ji16)).toNat*6))=some (.int .i64 ((rd_T28 l0 (ji16)).f0.f0))∧w'.cell? ⟨(ad124.add (((ji16)).toNat*6)).block,(ad124.add (((ji16)).toNat*6)).off+1,none⟩=some (.int .i64 ((rd_T28 l0 (ji16)).f0.f1))∧w'.cell? ⟨(ad124.add (((ji16)).toNat*6)).block,(ad124.add (((ji16)).toNat*6)).off+2,none⟩=some (.int .i64 ((rd_T28 l0 (ji16)).f1))∧w'.cell? ⟨(ad124.add (((ji16)).toNat*6)).block,(ad124.add (((ji16)).toNat*6)).off+3,none⟩=some (.int .i64 ((rd_T28 l0 (ji16)).f2))∧w'.cell? ⟨(ad124.add (((ji16)).toNat*6)).block,(ad124.add (((ji16)).toNat*6)).off+4,none⟩=some (.int .i64 ((rd_T28 l0 (ji16)).f3))∧w'.cell? ⟨(ad124.add (((ji16)).toNat*6)).block,(ad124.add (((ji16)).toNat*6)).off+5,none⟩=some (.int .i64 ((rd_T28 l0 (ji16)).f4))) (ds:=[]) (bt_ 0 25) (by kernel_rfl) rfl rfl ⟨bc_ BK125 0,bc_ BK125 1,bc_ BK125 2,bc_ BK125 3,bc_ BK125 4,bc_ BK125 5,(cb_ HB hw127_0),(cb_ HB hw127_1),(cb_ HB hw127_2),(cb_ HB hw127_3),(cb_ HB hw127_4),(cb_ HB hw127_5)⟩ (fun hHeld=>?_);refine with_tabW board_alarms_rise.tab4 board_alarms_rise.bits4 (fun HT_ HW_=>?_)
        generalize w20.drew=w21 at BK125 HB hx127_0 hx127_1 hx127_2 hx127_3 hx127_4 hx127_5 hHeld⊢
        refine take_ (i:=0) (N:=some 14) (v:=?_) (a':=?_) (dn_ 1 25) rfl rfl (take_ofW HT_.out HW_.out (by kernel_rfl)) (fun _ _ _ h=>h) (Or.inl ⟨by rfl,?_⟩) hHeld ?_ ?_
        rotate_left
        ·rintro w' ⟨s0,s1,s2,s3,s4,s5,s6,s7,s8,s9,s10,s11⟩
         go_simp
         with_reducible rfl
        rotate_left;(simp only[Act.put,zE,zH,zI,i64_w,i32_w];rfl)
        refine one_ (i:=1) (N:=some 15) (dn_ 2 25) rfl rfl (one_of HT_.out (by kernel_rfl)) (by decide) (fun K hK=>?_)
        refine gs_ Try.func50 #[.agg #[.int .i64 ((rd_T28 l0 x9_1).f0.f0),.int .i64 ((rd_T28 l0 x9_1).f0.f1),.int .i64 ((rd_T28 l0 x9_1).f1),.int .i64 ((rd_T28 l0 x9_1).f2),.int .i64 ((rd_T28 l0 x9_1).f3),.int .i64 ((rd_T28 l0 x9_1).f4)]] rfl ?_
        with_reducible refine(alarm_Is.calls ((rd_T28 l0 x9_1).f0.f0) ((rd_T28 l0 x9_1).f0.f1) ((rd_T28 l0 x9_1).f1) ((rd_T28 l0 x9_1).f2) ((rd_T28 l0 x9_1).f3) ((rd_T28 l0 x9_1).f4) true _ A9.out).mono ?_
        rintro e w22 ⟨rfl,hb⟩
        refine⟨_,rfl,?_⟩
        replace BK125:=bl_ BK125 hb
        replace HB:=zB (zQ (hb_ HB) hb)
        (try clear hb)
        (try clear hb2)
        (try clear hk)
        (try clear hi)
        refine hK.out _ _ ⟨bc_ BK125 0,bc_ BK125 1,bc_ BK125 2,bc_ BK125 3,bc_ BK125 4,bc_ BK125 5,(cb_ HB hw127_0),(cb_ HB hw127_1),(cb_ HB hw127_2),(cb_ HB hw127_3),(cb_ HB hw127_4),(cb_ HB hw127_5)⟩ (fun hHeld=>?_)
        clear hK K
        refine norm_ (a':=?_) ?_ ?_
        rotate_left
        ·show Act.put _ (some 15) _=_
         simp only[Act.put,zE,zH,zI,i64_w,i32_w]
         rfl
        have Q_:=Qs.mk (n:=25) [(0,2,16,7),(0,3,17,15),(0,4,18,31),(0,6,20,95),(2,5,19,127),(0,7,21,255),(0,8,22,511),(0,9,23,1023),(0,10,24,2047),(0,11,25,4095),(0,12,26,8191),(0,13,27,16383),(0,14,28,32767),(0,15,29,65535),(0,16,30,131071),(0,17,31,262143),(0,19,33,786431),(2,18,32,1048575),(2,20,34,2097151)]
        iterate 19 (first|(refine pq_ Q_ ?_;replace Q_:=qt_ Q_)|(refine tq_ Q_ hHeld ?_;replace Q_:=qt_ Q_))
        clear Q_
        refine one_ (i:=21) (N:=some 35) (dn_ 22 25) rfl rfl (one_of HT_.out (by kernel_rfl)) (by decide) (fun K hK=>?_)
        refine goes_ Try.func84 (by kernel_rfl) rfl #[.agg #[.int .i64 ((rd_T28 l0 (ji16)).f0.f0),.int .i64 ((rd_T28 l0 (ji16)).f0.f1)],.agg #[.int .i64 ((rd_T28 l0 x9_1).f0.f0),.int .i64 ((rd_T28 l0 x9_1).f0.f1)]] (by rfl) rfl rfl (by(try simp only[zM,zS,zV]);first|done|(simp only[hji16];rfl)|rfl|(simp only[zR,zP];rfl)) ?_
        with_reducible refine(spot_Less.calls ((rd_T28 l0 (ji16)).f0.f0) ((rd_T28 l0 (ji16)).f0.f1) ((rd_T28 l0 x9_1).f0.f0) ((rd_T28 l0 x9_1).f0.f1) t128 _ A19.out).mono ?_
        rintro e w23 ⟨rfl,hb⟩
        refine⟨_,rfl,?_⟩
        replace BK125:=bl_ BK125 hb
        replace HB:=zB (zQ (hb_ HB) hb)
        (try clear hb)
        (try clear hb2)
        (try clear hk)
        (try clear hi)
        refine hK.out _ _ ⟨bc_ BK125 0,bc_ BK125 1,bc_ BK125 2,bc_ BK125 3,bc_ BK125 4,bc_ BK125 5,(cb_ HB hw127_0),(cb_ HB hw127_1),(cb_ HB hw127_2),(cb_ HB hw127_3),(cb_ HB hw127_4),(cb_ HB hw127_5)⟩ (fun hHeld=>?_)
        clear hK K
        refine norm_ (a':=?_) ?_ ?_
        rotate_left
        ·show Act.put _ (some 35) _=_
         simp only[Act.put,zE,zH,zI,i64_w,i32_w]
         rfl
        have Q_:=Qs.mk (n:=25) [(0,22,36,8388607),(0,23,37,16777215),(0,24,38,33554431)]
        iterate 3 (refine pq_ Q_ ?_;replace Q_:=qt_ Q_)
        clear Q_
        refine done_ (done_of HT_.out (by kernel_rfl)) ?_
        try go_wp2
        go_meet
        case rel=>exact⟨_,(!t128),rs_,H',⟨za_ HK1⟩,⟨bk_ BK125⟩,⟨hb_ HB⟩⟩
       ·rw[if_neg c15] at H
        have c15b0:=zY c15
        clear c15
        have H':=zB H
        clear H
        try go_wp2
        have n0_:Aside0 (((((((w7.setCell ⟨gb125,0,none⟩ (.int .i64 ((rd_T28 l0 x9_1).f0.f0))).setCell ⟨gb125,1,none⟩ (.int .i64 ((rd_T28 l0 x9_1).f0.f1))).setCell ⟨gb125,2,none⟩ (.int .i64 ((rd_T28 l0 x9_1).f1))).setCell ⟨gb125,3,none⟩ (.int .i64 ((rd_T28 l0 x9_1).f2))).setCell ⟨gb125,4,none⟩ (.int .i64 ((rd_T28 l0 x9_1).f3))).setCell ⟨gb125,5,none⟩ (.int .i64 ((rd_T28 l0 x9_1).f4))).heap[gb125]?=some (.cells #[.int .i64 ((rd_T28 l0 x9_1).f0.f0),.int .i64 ((rd_T28 l0 x9_1).f0.f1),.int .i64 ((rd_T28 l0 x9_1).f1),.int .i64 ((rd_T28 l0 x9_1).f2),.int .i64 ((rd_T28 l0 x9_1).f3),.int .i64 ((rd_T28 l0 x9_1).f4)] 28 (0,0))):=⟨by refine zZ (cs:=#[.int .i64 ((rd_T28 l0 x9_1).f0.f0),.int .i64 ((rd_T28 l0 x9_1).f0.f1),.int .i64 ((rd_T28 l0 x9_1).f1),.int .i64 ((rd_T28 l0 x9_1).f2),.int .i64 ((rd_T28 l0 x9_1).f3),.int .i64 0]) ?_ 5 _ rfl;refine zZ (cs:=#[.int .i64 ((rd_T28 l0 x9_1).f0.f0),.int .i64 ((rd_T28 l0 x9_1).f0.f1),.int .i64 ((rd_T28 l0 x9_1).f1),.int .i64 ((rd_T28 l0 x9_1).f2),.int .i64 0,.int .i64 0]) ?_ 4 _ rfl;refine zZ (cs:=#[.int .i64 ((rd_T28 l0 x9_1).f0.f0),.int .i64 ((rd_T28 l0 x9_1).f0.f1),.int .i64 ((rd_T28 l0 x9_1).f1),.int .i64 0,.int .i64 0,.int .i64 0]) ?_ 3 _ rfl;refine zZ (cs:=#[.int .i64 ((rd_T28 l0 x9_1).f0.f0),.int .i64 ((rd_T28 l0 x9_1).f0.f1),.int .i64 0,.int .i64 0,.int .i64 0,.int .i64 0]) ?_ 2 _ rfl;refine zZ (cs:=#[.int .i64 ((rd_T28 l0 x9_1).f0.f0),.int .i64 0,.int .i64 0,.int .i64 0,.int .i64 0,.int .i64 0]) ?_ 1 _ rfl;refine zZ (cs:=#[.int .i64 0,.int .i64 0,.int .i64 0,.int .i64 0,.int .i64 0,.int .i64 0]) ?_ 0 _ rfl;exact BK125.out⟩
        have n1_:Aside0 (Below w.heap.size w ((((((w7.setCell ⟨gb125,0,none⟩ (.int .i64 ((rd_T28 l0 x9_1).f0.f0))).setCell ⟨gb125,1,none⟩ (.int .i64 ((rd_T28 l0 x9_1).f0.f1))).setCell ⟨gb125,2,none⟩ (.int .i64 ((rd_T28 l0 x9_1).f1))).setCell ⟨gb125,3,none⟩ (.int .i64 ((rd_T28 l0 x9_1).f2))).setCell ⟨gb125,4,none⟩ (.int .i64 ((rd_T28 l0 x9_1).f3))).setCell ⟨gb125,5,none⟩ (.int .i64 ((rd_T28 l0 x9_1).f4)))):=⟨hb_ HB⟩
        (try clear BK125)
        (try clear HB)
        generalize((((((w7.setCell ⟨gb125,0,none⟩ (.int .i64 ((rd_T28 l0 x9_1).f0.f0))).setCell ⟨gb125,1,none⟩ (.int .i64 ((rd_T28 l0 x9_1).f0.f1))).setCell ⟨gb125,2,none⟩ (.int .i64 ((rd_T28 l0 x9_1).f1))).setCell ⟨gb125,3,none⟩ (.int .i64 ((rd_T28 l0 x9_1).f2))).setCell ⟨gb125,4,none⟩ (.int .i64 ((rd_T28 l0 x9_1).f3))).setCell ⟨gb125,5,none⟩ (.int .i64 ((rd_T28 l0 x9_1).f4)))=w24 at n0_ n1_⊢
        have BK125:=n0_
        have HB:=n1_
        clear n0_ n1_
        replace BK125:=zB (zX BK125.out)
        replace HB:=zB (zG HB.out)
        refine start_ (n:=25) (S:=fun w'=>c_ w' gb125 0 (.int .i64 ((rd_T28 l0 x9_1).f0.f0))∧c_ w' gb125 1 (.int .i64 ((rd_T28 l0 x9_1).f0.f1))∧c_ w' gb125 2 (.int .i64 ((rd_T28 l0 x9_1).f1))∧c_ w' gb125 3 (.int .i64 ((rd_T28 l0 x9_1).f2))∧c_ w' gb125 4 (.int .i64 ((rd_T28 l0 x9_1).f3))∧c_ w' gb125 5 (.int .i64 ((rd_T28 l0 x9_1).f4))) (ds:=[]) (bt_ 0 25) (by kernel_rfl) rfl rfl ⟨bc_ BK125 0,bc_ BK125 1,bc_ BK125 2,bc_ BK125 3,bc_ BK125 4,bc_ BK125 5⟩ (fun hHeld=>?_);refine with_tabW board_alarms_rise.tab4 board_alarms_rise.bits4 (fun HT_ HW_=>?_)
        generalize w24.drew=w25 at BK125 HB hHeld⊢
        refine take_ (i:=0) (N:=some 14) (v:=?_) (a':=?_) (dn_ 1 25) rfl rfl (take_ofW HT_.out HW_.out (by kernel_rfl)) (fun _ _ _ h=>h) (Or.inl ⟨by rfl,?_⟩) hHeld ?_ ?_
        rotate_left
        ·rintro w' ⟨s0,s1,s2,s3,s4,s5⟩
         go_simp
         with_reducible rfl
        rotate_left;(simp only[Act.put,zE,zH,zI,i64_w,i32_w];rfl)
        refine one_ (i:=1) (N:=some 15) (dn_ 2 25) rfl rfl (one_of HT_.out (by kernel_rfl)) (by decide) (fun K hK=>?_)
        refine gs_ Try.func50 #[.agg #[.int .i64 ((rd_T28 l0 x9_1).f0.f0),.int .i64 ((rd_T28 l0 x9_1).f0.f1),.int .i64 ((rd_T28 l0 x9_1).f1),.int .i64 ((rd_T28 l0 x9_1).f2),.int .i64 ((rd_T28 l0 x9_1).f3),.int .i64 ((rd_T28 l0 x9_1).f4)]] rfl ?_
        with_reducible refine(alarm_Is.calls ((rd_T28 l0 x9_1).f0.f0) ((rd_T28 l0 x9_1).f0.f1) ((rd_T28 l0 x9_1).f1) ((rd_T28 l0 x9_1).f2) ((rd_T28 l0 x9_1).f3) ((rd_T28 l0 x9_1).f4) true _ A9.out).mono ?_
        rintro e w26 ⟨rfl,hb⟩
        refine⟨_,rfl,?_⟩
        replace BK125:=bl_ BK125 hb
        replace HB:=zB (zQ (hb_ HB) hb)
        (try clear hb)
        (try clear hb2)
        (try clear hk)
        (try clear hi)
        refine hK.out _ _ ⟨bc_ BK125 0,bc_ BK125 1,bc_ BK125 2,bc_ BK125 3,bc_ BK125 4,bc_ BK125 5⟩ (fun hHeld=>?_)
        clear hK K
        refine norm_ (a':=?_) ?_ ?_
        rotate_left
        ·show Act.put _ (some 15) _=_
         simp only[Act.put,zE,zH,zI,i64_w,i32_w]
         rfl
        have Q_:=Qs.mk (n:=25) [(0,2,16,7),(0,3,17,15),(0,4,18,31),(0,6,20,95),(2,5,19,127),(0,7,21,255),(0,8,22,511),(0,9,23,1023),(0,10,24,2047),(0,11,25,4095),(0,12,26,8191),(1,13,27,16383),(1,14,28,32767),(1,15,29,65535),(1,16,30,131071),(1,17,31,262143),(1,18,32,524287),(1,19,33,1048575),(1,20,34,2097151),(1,21,35,4194303),(1,22,36,8388607),(0,23,37,16777215),(0,24,38,33554431)]
        iterate 23 (first|(refine pq_ Q_ ?_;replace Q_:=qt_ Q_)|(refine uq_ Q_ ?_;replace Q_:=qt_ Q_)|(refine tq_ Q_ hHeld ?_;replace Q_:=qt_ Q_))
        clear Q_
        refine done_ (done_of HT_.out (by kernel_rfl)) ?_
        try go_wp2
        go_meet
        case rel=>exact⟨_,(false),rs_,H',⟨za_ HK1⟩,⟨bk_ BK125⟩,⟨hb_ HB⟩⟩
     ·replace c10:=zb c10
      subst c10
      rw[if_neg (show ¬(false=true) by decide)] at H;try dsimp only at H
      have H':=zB H
      clear H
      try go_wp2
      have n0_:Aside0 (((((((w7.setCell ⟨gb125,0,none⟩ (.int .i64 ((rd_T28 l0 x9_1).f0.f0))).setCell ⟨gb125,1,none⟩ (.int .i64 ((rd_T28 l0 x9_1).f0.f1))).setCell ⟨gb125,2,none⟩ (.int .i64 ((rd_T28 l0 x9_1).f1))).setCell ⟨gb125,3,none⟩ (.int .i64 ((rd_T28 l0 x9_1).f2))).setCell ⟨gb125,4,none⟩ (.int .i64 ((rd_T28 l0 x9_1).f3))).setCell ⟨gb125,5,none⟩ (.int .i64 ((rd_T28 l0 x9_1).f4))).heap[gb125]?=some (.cells #[.int .i64 ((rd_T28 l0 x9_1).f0.f0),.int .i64 ((rd_T28 l0 x9_1).f0.f1),.int .i64 ((rd_T28 l0 x9_1).f1),.int .i64 ((rd_T28 l0 x9_1).f2),.int .i64 ((rd_T28 l0 x9_1).f3),.int .i64 ((rd_T28 l0 x9_1).f4)] 28 (0,0))):=⟨by refine zZ (cs:=#[.int .i64 ((rd_T28 l0 x9_1).f0.f0),.int .i64 ((rd_T28 l0 x9_1).f0.f1),.int .i64 ((rd_T28 l0 x9_1).f1),.int .i64 ((rd_T28 l0 x9_1).f2),.int .i64 ((rd_T28 l0 x9_1).f3),.int .i64 0]) ?_ 5 _ rfl;refine zZ (cs:=#[.int .i64 ((rd_T28 l0 x9_1).f0.f0),.int .i64 ((rd_T28 l0 x9_1).f0.f1),.int .i64 ((rd_T28 l0 x9_1).f1),.int .i64 ((rd_T28 l0 x9_1).f2),.int .i64 0,.int .i64 0]) ?_ 4 _ rfl;refine zZ (cs:=#[.int .i64 ((rd_T28 l0 x9_1).f0.f0),.int .i64 ((rd_T28 l0 x9_1).f0.f1),.int .i64 ((rd_T28 l0 x9_1).f1),.int .i64 0,.int .i64 0,.int .i64 0]) ?_ 3 _ rfl;refine zZ (cs:=#[.int .i64 ((rd_T28 l0 x9_1).f0.f0),.int .i64 ((rd_T28 l0 x9_1).f0.f1),.int .i64 0,.int .i64 0,.int .i64 0,.int .i64 0]) ?_ 2 _ rfl;refine zZ (cs:=#[.int .i64 ((rd_T28 l0 x9_1).f0.f0),.int .i64 0,.int .i64 0,.int .i64 0,.int .i64 0,.int .i64 0]) ?_ 1 _ rfl;refine zZ (cs:=#[.int .i64 0,.int .i64 0,.int .i64 0,.int .i64 0,.int .i64 0,.int .i64 0]) ?_ 0 _ rfl;exact BK125.out⟩
      have n1_:Aside0 (Below w.heap.size w ((((((w7.setCell ⟨gb125,0,none⟩ (.int .i64 ((rd_T28 l0 x9_1).f0.f0))).setCell ⟨gb125,1,none⟩ (.int .i64 ((rd_T28 l0 x9_1).f0.f1))).setCell ⟨gb125,2,none⟩ (.int .i64 ((rd_T28 l0 x9_1).f1))).setCell ⟨gb125,3,none⟩ (.int .i64 ((rd_T28 l0 x9_1).f2))).setCell ⟨gb125,4,none⟩ (.int .i64 ((rd_T28 l0 x9_1).f3))).setCell ⟨gb125,5,none⟩ (.int .i64 ((rd_T28 l0 x9_1).f4)))):=⟨hb_ HB⟩
      (try clear BK125)
      (try clear HB)
      generalize((((((w7.setCell ⟨gb125,0,none⟩ (.int .i64 ((rd_T28 l0 x9_1).f0.f0))).setCell ⟨gb125,1,none⟩ (.int .i64 ((rd_T28 l0 x9_1).f0.f1))).setCell ⟨gb125,2,none⟩ (.int .i64 ((rd_T28 l0 x9_1).f1))).setCell ⟨gb125,3,none⟩ (.int .i64 ((rd_T28 l0 x9_1).f2))).setCell ⟨gb125,4,none⟩ (.int .i64 ((rd_T28 l0 x9_1).f3))).setCell ⟨gb125,5,none⟩ (.int .i64 ((rd_T28 l0 x9_1).f4)))=w27 at n0_ n1_⊢
      have BK125:=n0_
      have HB:=n1_
      clear n0_ n1_
      replace BK125:=zB (zX BK125.out)
      replace HB:=zB (zG HB.out)
      refine start_ (n:=25) (S:=fun w'=>c_ w' gb125 0 (.int .i64 ((rd_T28 l0 x9_1).f0.f0))∧c_ w' gb125 1 (.int .i64 ((rd_T28 l0 x9_1).f0.f1))∧c_ w' gb125 2 (.int .i64 ((rd_T28 l0 x9_1).f1))∧c_ w' gb125 3 (.int .i64 ((rd_T28 l0 x9_1).f2))∧c_ w' gb125 4 (.int .i64 ((rd_T28 l0 x9_1).f3))∧c_ w' gb125 5 (.int .i64 ((rd_T28 l0 x9_1).f4))) (ds:=[]) (bt_ 0 25) (by kernel_rfl) rfl rfl ⟨bc_ BK125 0,bc_ BK125 1,bc_ BK125 2,bc_ BK125 3,bc_ BK125 4,bc_ BK125 5⟩ (fun hHeld=>?_);refine with_tabW board_alarms_rise.tab4 board_alarms_rise.bits4 (fun HT_ HW_=>?_)
      generalize w27.drew=w28 at BK125 HB hHeld⊢
      refine take_ (i:=0) (N:=some 14) (v:=?_) (a':=?_) (dn_ 1 25) rfl rfl (take_ofW HT_.out HW_.out (by kernel_rfl)) (fun _ _ _ h=>h) (Or.inl ⟨by rfl,?_⟩) hHeld ?_ ?_
      rotate_left
      ·rintro w' ⟨s0,s1,s2,s3,s4,s5⟩
       go_simp
       with_reducible rfl
      rotate_left;(simp only[Act.put,zE,zH,zI,i64_w,i32_w];rfl)
      refine one_ (i:=1) (N:=some 15) (dn_ 2 25) rfl rfl (one_of HT_.out (by kernel_rfl)) (by decide) (fun K hK=>?_)
      refine gs_ Try.func50 #[.agg #[.int .i64 ((rd_T28 l0 x9_1).f0.f0),.int .i64 ((rd_T28 l0 x9_1).f0.f1),.int .i64 ((rd_T28 l0 x9_1).f1),.int .i64 ((rd_T28 l0 x9_1).f2),.int .i64 ((rd_T28 l0 x9_1).f3),.int .i64 ((rd_T28 l0 x9_1).f4)]] rfl ?_
      with_reducible refine(alarm_Is.calls ((rd_T28 l0 x9_1).f0.f0) ((rd_T28 l0 x9_1).f0.f1) ((rd_T28 l0 x9_1).f1) ((rd_T28 l0 x9_1).f2) ((rd_T28 l0 x9_1).f3) ((rd_T28 l0 x9_1).f4) false _ A9.out).mono ?_
      rintro e w29 ⟨rfl,hb⟩
      refine⟨_,rfl,?_⟩
      replace BK125:=bl_ BK125 hb
      replace HB:=zB (zQ (hb_ HB) hb)
      (try clear hb)
      (try clear hb2)
      (try clear hk)
      (try clear hi)
      refine hK.out _ _ ⟨bc_ BK125 0,bc_ BK125 1,bc_ BK125 2,bc_ BK125 3,bc_ BK125 4,bc_ BK125 5⟩ (fun hHeld=>?_)
      clear hK K
      refine norm_ (a':=?_) ?_ ?_
      rotate_left
      ·show Act.put _ (some 15) _=_
       simp only[Act.put,zE,zH,zI,i64_w,i32_w]
       rfl
      have Q_:=Qs.mk (n:=25) [(0,2,16,7),(0,3,17,15),(1,4,18,31),(1,5,19,63),(1,6,20,127),(1,7,21,255),(0,8,22,511),(0,9,23,1023),(1,10,24,2047),(1,11,25,4095),(1,12,26,8191),(1,13,27,16383),(1,14,28,32767),(1,15,29,65535),(1,16,30,131071),(1,17,31,262143),(1,18,32,524287),(1,19,33,1048575),(1,20,34,2097151),(1,21,35,4194303),(1,22,36,8388607),(1,23,37,16777215),(0,24,38,33554431)]
      iterate 23 (first|(refine pq_ Q_ ?_;replace Q_:=qt_ Q_)|(refine uq_ Q_ ?_;replace Q_:=qt_ Q_))
      clear Q_
      refine done_ (done_of HT_.out (by kernel_rfl)) ?_
      try go_wp2
      go_meet
      case rel=>exact⟨_,(true),rs_,H',⟨za_ HK1⟩,⟨bk_ BK125⟩,⟨hb_ HB⟩⟩
    case rest=>
     clear HC6
     try clear c1;try clear p2;try clear c5;try clear c8;try clear c10;try clear c15;try clear c15b0;try clear c17;try clear c18
     obtain⟨kq,x38_5,rfl,HA,HJ5,BK125,HB⟩:=hcut
     cases kq with
     |zero=>exact absurd HA.out (by simp[board_alarms_rise.j1])
     |succ kj5=>
      have H:=HA.out
      clear HA
      simp only[board_alarms_rise.j1] at H
      by_cases c30:x38_5=true
      ·subst c30
       rw[if_pos rfl] at H;try dsimp only at H
       obtain rfl:=zW H
       go_wp2
       go_ret
       exact⟨ew_,hb_ HB⟩
      ·replace c30:=zb c30
       subst c30
       rw[if_neg (show ¬(false=true) by decide)] at H;try dsimp only at H
       have H':=zB H
       clear H
       go_wp2
       go_roundg kj5
       case measure=>have:=HK1.out;have:=HJ5.out;omega
       case rel=>exact⟨(wrap64 (x9_1+1)),rs_,H',⟨by have:=HK1.out;have:=HJ5.out;omega⟩,⟨hb_ HB⟩⟩
   ·rw[if_neg c3] at H
    have c3b0:=zY c3
    clear c3
    obtain rfl:=zW H
    go_wp2
    go_ret
    exact⟨ew_,hb_ HB⟩
end Go.Proofs.Ytcfpbmdndapeaaa.F
